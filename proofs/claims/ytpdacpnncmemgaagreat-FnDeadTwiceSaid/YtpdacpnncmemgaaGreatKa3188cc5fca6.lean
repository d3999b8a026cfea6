/- A part of the proof: what the functions that the law calls answer, as pure values. -/
import Derived.Test.YtpdacpnncmemgaaGreatKdfdf7487b8fc
import Derived.Test.YtpdacpnncmemgaaGreatK836a3054a2c5
import Derived.Test.YtpdacpnncmemgaaGreatKa647db9ee9e6
import Derived.Test.YtpdacpnncmemgaaGreatK57e2d81719e9
import Derived.Test.YtpdacpnncmemgaaGreatKfaf2dbb53499
set_option linter.unusedSimpArgs false
set_option linter.unusedVariables false
set_option maxRecDepth 100000
set_option maxHeartbeats 4000000
namespace Go.Abs
open Go.Proofs
def m_spec_l1Parse_AC (fuel:Nat):Prop:=∀ (x1:ByteArray) (r:Form),zdJ fuel x1=some r→AC Tryz.prog 60 [.t (.sc (.str x1))] noOb (.ag [.t (.sc (.int .i64 r.kind)),.t (.sc (.str r.name)),.t (.sc (.int .i64 r.n)),.t (.sl (r.scopes.map rI)),.t (.sl (r.kids.map Form.row))]) noOb
theorem zfm (fuel:Nat):m_spec_l1Parse_AC fuel:=by
 intro x1 r F0
 unfold zdJ at F0
 refine AC_i [.ag [.t (.sc (.int .i64 r.kind)),.t (.sc (.str r.name)),.t (.sc (.int .i64 r.n)),.t (.sl (r.scopes.map rI)),.t (.sl (r.kids.map Form.row))]] Tryz.func60 rfl Tryz.ntmps60 ?_
 intro C hC
 refine zb (za ?_)
 refine z4 yZ32 ?_
 refine zf (zd (zb (za ?_)))
 refine s_mv ?_
 obtain ⟨v1,V1,F1⟩:=zc F0
 refine zx [] (m_spec_ParseForm_ok fuel _ _ V1) ?_
 refine s_mv ?_
 refine zcp ?_
 refine zcp ?_
 refine z4 yZ32 ?_
 refine zal yS32 ?_
 refine s_as ?_
 refine zf (zd (zb (za ?_)))
 refine zI yA32 yS32 ?_
 refine zal yS32 ?_
 refine zf (zd (zh (zm ?_)))
 cases F1
 exact zag [] [] (by rw [Tryz.results60];exact (zaE (by conv=>lhs;whnf) (by conv=>lhs;whnf) yA32 yS32 rfl zar))
def zfU (fuel:Nat):Prop:=∀ (x1:Form) (r:Form),zcc fuel x1=some r→AC Tryz.prog 83 [.ag [.t (.sc (.int .i64 x1.kind)),.t (.sc (.str x1.name)),.t (.sc (.int .i64 x1.n)),.t (.sl (x1.scopes.map rI)),.t (.sl (x1.kids.map Form.row))]] (objs []) (.ag [.t (.sc (.int .i64 r.kind)),.t (.sc (.str r.name)),.t (.sc (.int .i64 r.n)),.ar 9203,.ar 9204]) (objs [(9203,.arr (r.scopes.map rI) 3 true),(9204,.arr (r.kids.map Form.row) 32 true)])
theorem m_spec_l1Copy_st (fu:Nat) (ih_m_spec_l1Copy:∀ k,k≤fu→zfU k):zfU (fu+1):=by
 intro x1 r F0
 rw [zcc] at F0
 refine AC_i [.ag [.t (.sc (.int .i64 r.kind)),.t (.sc (.str r.name)),.t (.sc (.int .i64 r.n)),.ar 9203,.ar 9204]] Tryz.func83 rfl Tryz.ntmps83 ?_
 intro C hC
 refine zb (za ?_)
 refine za7 ?_
 refine z4 yZ32 ?_
 refine zf (zd (zb ?_))
 refine zZ yMix (by kernel_rfl) ?_
 refine s_fa zcN ?_
 refine zu yA3 ?_
 refine s_fa zcB ?_
 refine zu yA9 ?_
 refine s_fa zgV ?_
 refine zu yA3 ?_
 refine s_bs rI ([]:List Int) yP27 yR3 ?_
 refine s_fa zgu ?_
 refine zu yA27 ?_
 obtain ⟨hk1,F1⟩:=zat F0
 refine zfw rI (fun _=>rfl) hk1 yP27 ?_
 refine zgQ yZ32 yL32 ?_
 refine z4 yZ32 ?_
 refine zal yS32 ?_
 refine zam (by kernel_rfl) ?_
 refine zd (zb (zb (za ?_)))
 refine s_as ?_
 refine zf (zd (zl ?_))
 refine awp_ownB 3 5020 32 [.t (.sc (.int .i64 x1.kind)),.t (.sc (.str x1.name)),.t (.sc (.int .i64 x1.n)),.ar 14,.ar 5020] yI32.choose_spec ?_
 refine zaz [4,16,17,18,19,20,21,22,23,24,25,26,27,28,29,30,31,32,33] [3,5020] [31,32,2030,12030] [5020] (fun a:Nat × Int × (List Form)=>a.1) (fun a:Nat × Int × (List Form)=>[(4,.t (.sc (.int .i64 a.2.1)))]) (fun a:Nat × Int × (List Form)=>[(3,.box [.t (.sc (.int .i64 x1.kind)),.t (.sc (.str x1.name)),.t (.sc (.int .i64 x1.n)),.ar 14,.ar 5020]),(5020,.arr (a.2.2.map Form.row) 32 true)]) (fun a:Nat × Int × (List Form)=>a.1≤fu∧zcm a.1 x1 a.2.1 a.2.2=some r∧0≤a.2.1) (fu,0,([]:List Form)) ⟨Nat.le_refl _,F1,by simp⟩ (by rfl) (by rfl) (fun _=>rfl) (zQ (by conv=>lhs;whnf) (by rfl) zbA) (zV (by conv=>lhs;whnf) (by rfl) (zV (by conv=>lhs;whnf) (by rfl) zbl)) (zcq hC rfl) (by repeat (first | exact zai rfl | refine zax rfl ?_ | refine z8 rfl ?_)) (by repeat (first | exact zaU | exact zan rfl | refine zay rfl ?_ | refine z9 rfl ?_)) ?_
 clear F1
 rintro ⟨fu,g2,g3⟩ ⟨hl4,F2,hn_g2⟩
 dsimp only at hl4 F2 hn_g2 ⊢
 obtain _ | fu:=fu
 · rw [zcm] at F2;cases F2
 rw [zcm] at F2
 refine zb (zb (za ?_))
 refine s_mv ?_
 refine s_fa zD ?_
 refine zu yA24 ?_
 refine zF yU24 ?_
 refine s_lt ?_
 refine zf (zd ?_)
 refine zn F2 ?_ ?_<;>intro C5 F3
 refine zN 18 (fun B6=>?_)
 refine zi (zd (zb (zl ?_)))
 refine zZ yMix (by kernel_rfl) ?_
 refine s_fa zD ?_
 refine zu yA24 ?_
 refine s_fa zD ?_
 refine zu yA24 ?_
 refine s_mv ?_
 obtain ⟨v7,V7,F4⟩:=zc F3
 refine zR Form.row V7 (Form.row_eq _) yE24 ?_
 refine zak yA32 yS32 ?_
 obtain ⟨v8,V8,F5⟩:=zc F4
 refine zL [(9203,2030),(9204,12030)] [] _ _ (ih_m_spec_l1Copy fu (by omega) _ _ V8) ?_
 refine s_bs Form.row [v8] yP24 yR32 ?_
 obtain ⟨hk9,F6⟩:=zat F5
 refine zfw Form.row (fun y=>Form.row_len y) hk9 yP24 ?_
 refine s_fa zD ?_
 refine s_stP yS24 ?_
 refine zam (by kernel_rfl) ?_
 refine zU (zd (za ?_))
 refine s_mv ?_
 refine zH (zaq C5 B6 hn_g2) ?_
 refine s_as ?_
 refine zf ?_
 exact s_rn (fu,(g2+1),(g3++[v8])) ⟨by first | omega | (dsimp only;omega),F6,by first | omega | (dsimp only;omega)⟩ [(5020,32)]
 refine zA (zq (zp (zr (zd (zb (za ?_))))))
 refine zI yA32 yS32 ?_
 refine zal yS32 ?_
 refine zf (zd ?_)
 refine zeP 2 14 9203 [.t (.sc (.int .i64 x1.kind)),.t (.sc (.str x1.name)),.t (.sc (.int .i64 x1.n)),.ar 9203,.ar 5020] ?_
 refine zeP 2 5020 9204 [.t (.sc (.int .i64 x1.kind)),.t (.sc (.str x1.name)),.t (.sc (.int .i64 x1.n)),.ar 9203,.ar 9204] ?_
 refine zh (zm ?_)
 cases F3
 exact zag _ [] (by rw [Tryz.results83];exact (zaE (by conv=>lhs;whnf) (by conv=>lhs;whnf) yA32 yS32 rfl zar))
theorem m_spec_l1Copy_all (fuel:Nat):zfU fuel:=by
 induction fuel using Nat.strongRecOn with
 | _ N ih =>
   cases N with
   | zero=>exact (by intro x1 r h;rw [zcc] at h;cases h)
   | succ fu=>exact m_spec_l1Copy_st fu (fun k hk=>(ih k (by omega)))
theorem zem (fuel:Nat):zfU fuel:=(m_spec_l1Copy_all fuel)
def m_spec_l15Rd_num_AC (fuel:Nat):Prop:=∀ (o1:zbY) (x2:(List Int)) (r:(Int × zbY)),zaH fuel o1 x2=some r→AC Tryz.prog 127 [.rf 9000 0,.t (.sl (x2.map rI))] (objs [(9000,.box [.t (.sl (o1.b.map rB)),.t (.sc (.int .i64 o1.p))])]) (.t (.sc (.int .i64 r.1))) (objs [(9000,.box [.t (.sl (r.2.b.map rB)),.t (.sc (.int .i64 r.2.p))])])
theorem zcu (fuel:Nat):m_spec_l15Rd_num_AC fuel:=by
 intro o1 x2 r F0
 unfold zaH at F0
 refine AC_i [.t (.sc (.int .i64 r.1))] Tryz.func127 rfl Tryz.ntmps127 ?_
 intro C hC
 refine zb (za ?_)
 refine s_as ?_
 refine zf (zd (zb (za ?_)))
 iterate 3 refine s_mv ?_
 refine zF yU27 ?_
 obtain ⟨v1,V1,F1⟩:=zc F0
 refine zL [(9000,9000)] [] _ _ (zah fuel _ _ _ V1) ?_
 obtain ⟨v2,V2,F2⟩:=zc F1
 refine zR rI V2 rfl yE27 ?_
 refine zu yA3 ?_
 refine s_as ?_
 refine zf (zd (zh (zm ?_)))
 cases F2
 exact zk _ [] Tryz.results127
def m_spec_l15Rd_of_AC (fuel:Nat):Prop:=∀ (o1:zbY) (x2:(List ByteArray)) (r:(ByteArray × zbY)),zdl fuel o1 x2=some r→AC Tryz.prog 84 [.rf 9000 0,.t (.sl (x2.map rS))] (objs [(9000,.box [.t (.sl (o1.b.map rB)),.t (.sc (.int .i64 o1.p))])]) (.t (.sc (.str r.1))) (objs [(9000,.box [.t (.sl (r.2.b.map rB)),.t (.sc (.int .i64 r.2.p))])])
theorem zhv (fuel:Nat):m_spec_l15Rd_of_AC fuel:=by
 intro o1 x2 r F0
 unfold zdl at F0
 refine AC_i [.t (.sc (.str r.1))] Tryz.func84 rfl Tryz.ntmps84 ?_
 intro C hC
 refine zb (za ?_)
 refine s_as ?_
 refine zf (zd (zb (za ?_)))
 iterate 3 refine s_mv ?_
 refine zF yU89 ?_
 obtain ⟨v1,V1,F1⟩:=zc F0
 refine zL [(9000,9000)] [] _ _ (zah fuel _ _ _ V1) ?_
 obtain ⟨v2,V2,F2⟩:=zc F1
 refine zR rS V2 rfl yE89 ?_
 refine zu yA9 ?_
 refine s_as ?_
 refine zf (zd (zh (zm ?_)))
 cases F2
 exact zk _ [] Tryz.results84
def zeT (fuel:Nat):Prop:=∀ (o1:zbY) (x2:Form) (r:(Form × zbY)),zav fuel o1 x2=some r→AC Tryz.prog 61 [.rf 9000 0,.ag [.t (.sc (.int .i64 x2.kind)),.t (.sc (.str x2.name)),.t (.sc (.int .i64 x2.n)),.t (.sl (x2.scopes.map rI)),.t (.sl (x2.kids.map Form.row))]] (objs [(9000,.box [.t (.sl (o1.b.map rB)),.t (.sc (.int .i64 o1.p))])]) (.ag [.t (.sc (.int .i64 r.1.kind)),.t (.sc (.str r.1.name)),.t (.sc (.int .i64 r.1.n)),.t (.sl (r.1.scopes.map rI)),.t (.sl (r.1.kids.map Form.row))]) (objs [(9000,.box [.t (.sl (r.2.b.map rB)),.t (.sc (.int .i64 r.2.p))])])
theorem m_spec_l1Mutate_st (fu:Nat) (ih_m_spec_l1Mutate:∀ k,k≤fu→zeT k):zeT (fu+1):=by
 intro o1 x2 r F0
 rw [zav] at F0
 refine AC_i [.ag [.t (.sc (.int .i64 r.1.kind)),.t (.sc (.str r.1.name)),.t (.sc (.int .i64 r.1.n)),.t (.sl (r.1.scopes.map rI)),.t (.sl (r.1.kids.map Form.row))]] Tryz.func61 rfl Tryz.ntmps61 ?_
 intro C hC
 refine zb (za ?_)
 refine za7 ?_
 refine z4 yZ32 ?_
 refine zf (zd (zb (za ?_)))
 refine zI yA32 yS32 ?_
 obtain ⟨v1,V1,F1⟩:=zc F0
 refine zL [(9203,2008),(9204,12008)] [] _ _ (zem fu _ _ V1) ?_
 refine z4 yZ32 ?_
 refine zal yS32 ?_
 refine zf (zd (zb (zb (za ?_))))
 refine s_fa zD ?_
 refine zu yA24 ?_
 refine zgv yU24 ?_
 refine s_gt ?_
 refine s_mv ?_
 refine zo _ 13 F1 ?_ ?_<;>intro C2 F2
 refine s_mv ?_
 obtain ⟨v3,V3,F3⟩:=zc F2
 refine zL [(9000,9000)] [] _ _ (zah fu _ _ _ V3) ?_
 refine s_gt ?_
 refine zz ?_
 refine zf (zd ?_)
 refine zn F3 ?_ ?_<;>intro C4 F4
 refine zb (za ?_)
 refine s_mv ?_
 refine s_fa zD ?_
 refine zu yA24 ?_
 refine zgv yU24 ?_
 obtain ⟨v5,V5,F5⟩:=zc F4
 refine zL [(9000,9000)] [] _ _ (zah fu _ _ _ V5) ?_
 refine s_as ?_
 refine zf (zd (zb ?_))
 refine zZ yMix (by kernel_rfl) ?_
 refine s_fa zD ?_
 refine zu yA24 ?_
 refine s_mv ?_
 refine s_mv ?_
 refine s_fa zD ?_
 refine zu yA24 ?_
 refine s_mv ?_
 obtain ⟨v6,V6,F6⟩:=zc F5
 refine zhC Form.row V6 yE24 ?_
 refine s_lAN Form.row V6 (Form.row_eq _) yA32 yS32 ?_
 obtain ⟨v7,V7,F7⟩:=zc F6
 refine zL [(9000,9000)] [] _ _ (ih_m_spec_l1Mutate fu (by omega) _ _ _ V7) ?_
 obtain ⟨v8,V8,F8⟩:=zc F7
 refine zhC Form.row V8 yE24 ?_
 refine s_stA Form.row v7.1 V8 (Form.row_eq _) (Form.row_eq _) yS32 yS32 ?_
 refine zam (by kernel_rfl) ?_
 refine zd (zb (za ?_))
 refine zI yA32 yS32 ?_
 refine zal yS32 ?_
 refine zf (zd (zh (zg (zm ?_))))
 cases F8
 exact zag _ [2008,12008] (by rw [Tryz.results61];exact (zaE (by conv=>lhs;whnf) (by conv=>lhs;whnf) yA32 yS32 rfl zar))
 refine zi (zd (zb (zb (za ?_))))
 refine s_mv ?_
 obtain ⟨v9,V9,F5⟩:=zc F4
 refine zL [(9000,9000)] [] _ _ (zah fu _ _ _ V9) ?_
 refine zf (zd (zl (zb (za ?_))))
 refine s_eq ?_
 refine s_as ?_
 refine zf (zd ?_)
 refine zn F5 ?_ ?_<;>intro C10 F6
 refine za ?_
 refine s_mv ?_
 refine s_bs rI [0,4,1,3] yP27 yR3 ?_
 obtain ⟨v11,V11,F7⟩:=zc F6
 refine zL [(9000,9000)] [40] _ _ (zcu fu _ _ _ V11) ?_
 refine s_fa zcN ?_
 refine s_stP yS3 ?_
 refine zf (zU (zd (zb (za ?_))))
 refine zI yA32 yS32 ?_
 refine zal yS32 ?_
 refine zf (zd (zh (zm ?_)))
 cases F7
 exact zag _ [2008,12008] (by rw [Tryz.results61];exact (zaE (by conv=>lhs;whnf) (by conv=>lhs;whnf) yA32 yS32 rfl zar))
 refine zb (za ?_)
 refine s_eq ?_
 refine s_as ?_
 refine zf (zd ?_)
 refine zn F6 ?_ ?_<;>intro C12 F7
 refine za ?_
 refine s_mv ?_
 refine s_bs rS [(⟨#[]⟩:ByteArray),(⟨#[65]⟩:ByteArray),(⟨#[116,111,111,108,111,110,103,97,110,97,109,101,49]⟩:ByteArray),(⟨#[122]⟩:ByteArray),(⟨#[120,32,121]⟩:ByteArray)] yP89 yR9 ?_
 obtain ⟨v13,V13,F8⟩:=zc F7
 refine zL [(9000,9000)] [46] _ _ (zhv fu _ _ _ V13) ?_
 refine s_fa zcB ?_
 refine s_stP yS9 ?_
 refine zf (zU (zd (zb (za ?_))))
 refine zI yA32 yS32 ?_
 refine zal yS32 ?_
 refine zf (zd (zh (zm ?_)))
 cases F8
 exact zag _ [2008,12008] (by rw [Tryz.results61];exact (zaE (by conv=>lhs;whnf) (by conv=>lhs;whnf) yA32 yS32 rfl zar))
 refine zb (za ?_)
 refine s_eq ?_
 refine s_as ?_
 refine zf (zd ?_)
 refine zn F7 ?_ ?_<;>intro C14 F8
 refine za ?_
 refine s_mv ?_
 refine s_bs rI [1000,(-1),5] yP27 yR3 ?_
 obtain ⟨v15,V15,F9⟩:=zc F8
 refine zL [(9000,9000)] [52] _ _ (zcu fu _ _ _ V15) ?_
 refine s_fa zgV ?_
 refine s_stP yS3 ?_
 refine zf (zU (zd (zb (za ?_))))
 refine zI yA32 yS32 ?_
 refine zal yS32 ?_
 refine zf (zd (zh (zm ?_)))
 cases F9
 exact zag _ [2008,12008] (by rw [Tryz.results61];exact (zaE (by conv=>lhs;whnf) (by conv=>lhs;whnf) yA32 yS32 rfl zar))
 refine zb (za ?_)
 refine s_eq ?_
 refine s_as ?_
 refine zf (zd ?_)
 refine zn F8 ?_ ?_<;>intro C16 F9
 refine zZ yMix (by kernel_rfl) ?_
 refine s_fa zgu ?_
 refine zu yA27 ?_
 refine s_mv ?_
 refine s_bs rI [0,100,1,50] yP27 yR3 ?_
 obtain ⟨v17,V17,F10⟩:=zc F9
 refine zL [(9000,9000)] [60] _ _ (zcu fu _ _ _ V17) ?_
 refine s_bs rI [v17.1] yP27 yR3 ?_
 obtain ⟨hk18,F11⟩:=zat F10
 refine zfw rI (fun _=>rfl) hk18 yP27 ?_
 refine s_fa zgu ?_
 refine s_stP yS27 ?_
 refine zam (by kernel_rfl) ?_
 refine zU (zd (zb (za ?_)))
 refine zI yA32 yS32 ?_
 refine zal yS32 ?_
 refine zf (zd (zh (zm ?_)))
 cases F11
 exact zag _ [63,12008] (by rw [Tryz.results61];exact (zaE (by conv=>lhs;whnf) (by conv=>lhs;whnf) yA32 yS32 rfl zar))
 refine zi (zU (zd (zb (za ?_))))
 refine zI yA32 yS32 ?_
 refine zal yS32 ?_
 refine zf (zd (zh (zm ?_)))
 cases F9
 exact zag _ [2008,12008] (by rw [Tryz.results61];exact (zaE (by conv=>lhs;whnf) (by conv=>lhs;whnf) yA32 yS32 rfl zar))
 iterate 3 refine r_no rfl ?_
 refine zy ?_
 refine zf (zd (zaP rfl (zi (zd (zb (zb (za ?_)))))))
 refine s_mv ?_
 obtain ⟨v19,V19,F3⟩:=zc F2
 refine zL [(9000,9000)] [] _ _ (zah fu _ _ _ V19) ?_
 refine zf (zd (zl (zb (za ?_))))
 refine s_eq ?_
 refine s_as ?_
 refine zf (zd ?_)
 refine zn F3 ?_ ?_<;>intro C20 F4
 refine za ?_
 refine s_mv ?_
 refine s_bs rI [0,4,1,3] yP27 yR3 ?_
 obtain ⟨v21,V21,F5⟩:=zc F4
 refine zL [(9000,9000)] [40] _ _ (zcu fu _ _ _ V21) ?_
 refine s_fa zcN ?_
 refine s_stP yS3 ?_
 refine zf (zU (zd (zb (za ?_))))
 refine zI yA32 yS32 ?_
 refine zal yS32 ?_
 refine zf (zd (zh (zm ?_)))
 cases F5
 exact zag _ [2008,12008] (by rw [Tryz.results61];exact (zaE (by conv=>lhs;whnf) (by conv=>lhs;whnf) yA32 yS32 rfl zar))
 refine zb (za ?_)
 refine s_eq ?_
 refine s_as ?_
 refine zf (zd ?_)
 refine zn F4 ?_ ?_<;>intro C22 F5
 refine za ?_
 refine s_mv ?_
 refine s_bs rS [(⟨#[]⟩:ByteArray),(⟨#[65]⟩:ByteArray),(⟨#[116,111,111,108,111,110,103,97,110,97,109,101,49]⟩:ByteArray),(⟨#[122]⟩:ByteArray),(⟨#[120,32,121]⟩:ByteArray)] yP89 yR9 ?_
 obtain ⟨v23,V23,F6⟩:=zc F5
 refine zL [(9000,9000)] [46] _ _ (zhv fu _ _ _ V23) ?_
 refine s_fa zcB ?_
 refine s_stP yS9 ?_
 refine zf (zU (zd (zb (za ?_))))
 refine zI yA32 yS32 ?_
 refine zal yS32 ?_
 refine zf (zd (zh (zm ?_)))
 cases F6
 exact zag _ [2008,12008] (by rw [Tryz.results61];exact (zaE (by conv=>lhs;whnf) (by conv=>lhs;whnf) yA32 yS32 rfl zar))
 refine zb (za ?_)
 refine s_eq ?_
 refine s_as ?_
 refine zf (zd ?_)
 refine zn F5 ?_ ?_<;>intro C24 F6
 refine za ?_
 refine s_mv ?_
 refine s_bs rI [1000,(-1),5] yP27 yR3 ?_
 obtain ⟨v25,V25,F7⟩:=zc F6
 refine zL [(9000,9000)] [52] _ _ (zcu fu _ _ _ V25) ?_
 refine s_fa zgV ?_
 refine s_stP yS3 ?_
 refine zf (zU (zd (zb (za ?_))))
 refine zI yA32 yS32 ?_
 refine zal yS32 ?_
 refine zf (zd (zh (zm ?_)))
 cases F7
 exact zag _ [2008,12008] (by rw [Tryz.results61];exact (zaE (by conv=>lhs;whnf) (by conv=>lhs;whnf) yA32 yS32 rfl zar))
 refine zb (za ?_)
 refine s_eq ?_
 refine s_as ?_
 refine zf (zd ?_)
 refine zn F6 ?_ ?_<;>intro C26 F7
 refine zZ yMix (by kernel_rfl) ?_
 refine s_fa zgu ?_
 refine zu yA27 ?_
 refine s_mv ?_
 refine s_bs rI [0,100,1,50] yP27 yR3 ?_
 obtain ⟨v27,V27,F8⟩:=zc F7
 refine zL [(9000,9000)] [60] _ _ (zcu fu _ _ _ V27) ?_
 refine s_bs rI [v27.1] yP27 yR3 ?_
 obtain ⟨hk28,F9⟩:=zat F8
 refine zfw rI (fun _=>rfl) hk28 yP27 ?_
 refine s_fa zgu ?_
 refine s_stP yS27 ?_
 refine zam (by kernel_rfl) ?_
 refine zU (zd (zb (za ?_)))
 refine zI yA32 yS32 ?_
 refine zal yS32 ?_
 refine zf (zd (zh (zm ?_)))
 cases F9
 exact zag _ [63,12008] (by rw [Tryz.results61];exact (zaE (by conv=>lhs;whnf) (by conv=>lhs;whnf) yA32 yS32 rfl zar))
 refine zi (zU (zd (zb (za ?_))))
 refine zI yA32 yS32 ?_
 refine zal yS32 ?_
 refine zf (zd (zh (zm ?_)))
 cases F7
 exact zag _ [2008,12008] (by rw [Tryz.results61];exact (zaE (by conv=>lhs;whnf) (by conv=>lhs;whnf) yA32 yS32 rfl zar))
theorem m_spec_l1Mutate_all (fuel:Nat):zeT fuel:=by
 induction fuel using Nat.strongRecOn with
 | _ N ih =>
   cases N with
   | zero=>exact (by intro o1 x2 r h;rw [zav] at h;cases h)
   | succ fu=>exact m_spec_l1Mutate_st fu (fun k hk=>(ih k (by omega)))
theorem zeS (fuel:Nat):zeT fuel:=(m_spec_l1Mutate_all fuel)
def m_spec_l3Is_AC (fuel:Nat):Prop:=∀ (x1:Form) (r:Bool),zhe fuel x1=some r→AC Tryz.prog 129 [.ag [.t (.sc (.int .i64 x1.kind)),.t (.sc (.str x1.name)),.t (.sc (.int .i64 x1.n)),.t (.sl (x1.scopes.map rI)),.t (.sl (x1.kids.map Form.row))]] noOb (.t (.sc (.bool r))) noOb
theorem m_spec_l3Is_ok (fuel:Nat):m_spec_l3Is_AC fuel:=by
 intro x1 r F0
 unfold zhe at F0
 refine AC_i [.t (.sc (.bool r))] Tryz.func129 rfl Tryz.ntmps129 ?_
 intro C hC
 refine zb (za ?_)
 refine za7 ?_
 refine s_as ?_
 refine zf (zd (zb (za ?_)))
 refine s_fa zcN ?_
 refine zu yA3 ?_
 refine s_eq ?_
 refine s_mv ?_
 refine zo _ 6 F0 ?_ ?_<;>intro C1 F1
 refine zI yA32 yS32 ?_
 obtain ⟨v2,V2,F2⟩:=zc F1
 refine zx [] (zdm fuel _ _ V2) ?_
 refine zz ?_
 refine s_as ?_
 refine zf (zd (zh (zm ?_)))
 cases F2
 exact zk [] [] Tryz.results129
 refine r_no rfl (r_no rfl ?_)
 refine zy ?_
 refine s_as ?_
 refine zf (zd (zh (zm ?_)))
 cases F1
 exact zk [] [] Tryz.results129
def m_spec_l1Ints_AC (fuel:Nat):Prop:=∀ (x1:(List Int)) (x2:(List Int)) (r:Bool),zgd fuel x1 x2=some r→AC Tryz.prog 116 [.t (.sl (x1.map rI)),.t (.sl (x2.map rI))] noOb (.t (.sc (.bool r))) noOb
theorem m_spec_l1Ints_ok (fuel:Nat):m_spec_l1Ints_AC fuel:=by
 intro x1 x2 r F0
 unfold zgd at F0
 refine AC_i [.t (.sc (.bool r))] Tryz.func116 rfl Tryz.ntmps116 ?_
 intro C hC
 refine zb (za ?_)
 refine s_as ?_
 refine zf (zd (zb (zb (za ?_))))
 refine s_mv ?_
 refine zF yU27 ?_
 refine s_mv ?_
 refine zF yU27 ?_
 refine s_ne ?_
 refine zf (zd ?_)
 refine zn F0 ?_ ?_<;>intro C1 F1
 refine zb (za ?_)
 refine s_as ?_
 refine zf (zd (zh (zg (zm ?_))))
 cases F1
 exact zk [] [] Tryz.results116
 refine zi (zd (zb (zb (za ?_))))
 refine s_as ?_
 refine zf (zd (zl ?_))
 refine zaX (β:=Int) [4,5,11,12,13,14,15,16,17,18,19,20,21,22,23,24,25] [] [] (fun a=>[(5,.t (.sc (.int .i64 a.2)))]) (fun a=>[]) (fun a=>a.1≤fuel∧zcU a.1 x1 x2 a.2=some r∧0≤a.2) (fuel,0) ⟨Nat.le_refl _,F1,by simp⟩ ?_
 clear F1
 rintro ⟨fu,g2⟩ ⟨hl3,F2,hn_g2⟩
 dsimp only at hl3 F2 hn_g2 ⊢
 obtain _ | fu:=fu
 · rw [zcU] at F2;cases F2
 rw [zcU] at F2
 refine zb (zb (za ?_))
 refine s_mv ?_
 refine s_mv ?_
 refine zF yU27 ?_
 refine s_lt ?_
 refine zf (zd ?_)
 refine zn F2 ?_ ?_<;>intro C4 F3
 refine zN 0 (fun B5=>?_)
 refine zi (zd (zb (zl (zb ?_))))
 refine zZ yMix (by kernel_rfl) ?_
 refine s_mv ?_
 refine s_mv ?_
 obtain ⟨v6,V6,F4⟩:=zc F3
 refine zR rI V6 rfl yE27 ?_
 refine zu yA3 ?_
 refine s_mv ?_
 refine s_mv ?_
 obtain ⟨v7,V7,F5⟩:=zc F4
 refine zR rI V7 rfl yE27 ?_
 refine zu yA3 ?_
 refine s_ne ?_
 refine zam (by kernel_rfl) ?_
 refine zd ?_
 refine zn F5 ?_ ?_<;>intro C8 F6
 refine zb (za ?_)
 refine s_as ?_
 refine zf (zd (zh (zj (zg (zw (zj (zg (zm ?_))))))))
 cases F6
 exact zk [] [] Tryz.results116
 refine zi (zU (zd (za ?_)))
 refine s_mv ?_
 refine zH (zaq C4 B5 hn_g2) ?_
 refine s_as ?_
 refine zf ?_
 exact s_rn (fu,(g2+1)) ⟨by first | omega | (dsimp only;omega),F6,by first | omega | (dsimp only;omega)⟩
 refine zA (zq (zp (zr (zd (zb (za ?_))))))
 refine s_as ?_
 refine zf (zd (zh (zm ?_)))
 cases F3
 exact zk [] [] Tryz.results116
def zeU (fuel:Nat):Prop:=∀ (x1:Form) (x2:Form) (r:Bool),zbk fuel x1 x2=some r→AC Tryz.prog 73 [.ag [.t (.sc (.int .i64 x1.kind)),.t (.sc (.str x1.name)),.t (.sc (.int .i64 x1.n)),.t (.sl (x1.scopes.map rI)),.t (.sl (x1.kids.map Form.row))],.ag [.t (.sc (.int .i64 x2.kind)),.t (.sc (.str x2.name)),.t (.sc (.int .i64 x2.n)),.t (.sl (x2.scopes.map rI)),.t (.sl (x2.kids.map Form.row))]] noOb (.t (.sc (.bool r))) noOb
theorem m_spec_FormSame_st (fu:Nat) (ih_m_spec_FormSame:∀ k,k≤fu→zeU k):zeU (fu+1):=by
 intro x1 x2 r F0
 rw [zbk] at F0
 refine AC_i [.t (.sc (.bool r))] Tryz.func73 rfl Tryz.ntmps73 ?_
 intro C hC
 refine zb (za ?_)
 refine za7 ?_
 refine za7 ?_
 refine s_as ?_
 refine zf (zd (zb (zb (za ?_))))
 refine s_fa zcN ?_
 refine zu yA3 ?_
 refine s_fa zcN ?_
 refine zu yA3 ?_
 refine s_ne ?_
 refine s_mv ?_
 refine zo _ 11 F0 ?_ ?_<;>intro C1 F1
 iterate 5 refine r_no rfl ?_
 refine zz ?_
 refine s_mv ?_
 iterate 5 refine r_no rfl ?_
 refine zz ?_
 refine s_mv ?_
 iterate 6 refine r_no rfl ?_
 refine zz ?_
 refine s_mv ?_
 iterate 7 refine r_no rfl ?_
 refine zz ?_
 refine zf (zd (zK rfl (zb (za ?_))))
 refine s_as ?_
 refine zf (zd (zh (zg (zm ?_))))
 cases F1
 exact zk [] [] Tryz.results73
 refine s_fa zcB ?_
 refine zu yA9 ?_
 refine s_fa zcB ?_
 refine zu yA9 ?_
 refine s_neS ?_
 refine zy ?_
 refine s_mv ?_
 refine zo _ 18 F1 ?_ ?_<;>intro C2 F2
 iterate 5 refine r_no rfl ?_
 refine zz ?_
 refine s_mv ?_
 iterate 6 refine r_no rfl ?_
 refine zz ?_
 refine s_mv ?_
 iterate 7 refine r_no rfl ?_
 refine zz ?_
 refine zf (zd (zK rfl (zb (za ?_))))
 refine s_as ?_
 refine zf (zd (zh (zg (zm ?_))))
 cases F2
 exact zk [] [] Tryz.results73
 refine s_fa zgV ?_
 refine zu yA3 ?_
 refine s_fa zgV ?_
 refine zu yA3 ?_
 refine s_ne ?_
 refine zy ?_
 refine s_mv ?_
 refine zo _ 25 F2 ?_ ?_<;>intro C3 F3
 iterate 6 refine r_no rfl ?_
 refine zz ?_
 refine s_mv ?_
 iterate 7 refine r_no rfl ?_
 refine zz ?_
 refine zf (zd (zK rfl (zb (za ?_))))
 refine s_as ?_
 refine zf (zd (zh (zg (zm ?_))))
 cases F3
 exact zk [] [] Tryz.results73
 refine s_fa zgu ?_
 refine zu yA27 ?_
 refine s_fa zgu ?_
 refine zu yA27 ?_
 obtain ⟨v4,V4,F4⟩:=zc F3
 refine zx [] (m_spec_l1Ints_ok fu _ _ _ V4) ?_
 refine za3 ?_
 refine zy ?_
 refine s_mv ?_
 refine zo _ 33 F4 ?_ ?_<;>intro C5 F5
 iterate 7 refine r_no rfl ?_
 refine zz ?_
 refine zf (zd (zK rfl (zb (za ?_))))
 refine s_as ?_
 refine zf (zd (zh (zg (zm ?_))))
 cases F5
 exact zk [] [] Tryz.results73
 refine s_fa zD ?_
 refine zu yA24 ?_
 refine zF yU24 ?_
 refine s_fa zD ?_
 refine zu yA24 ?_
 refine zF yU24 ?_
 refine s_ne ?_
 refine zy ?_
 refine zf (zd ?_)
 refine zn F5 ?_ ?_<;>intro C6 F6
 refine zb (za ?_)
 refine s_as ?_
 refine zf (zd (zh (zg (zm ?_))))
 cases F6
 exact zk [] [] Tryz.results73
 refine zi (zd (zb (zb (za ?_))))
 refine s_as ?_
 refine zf (zd (zl ?_))
 refine zaX (β:=Int) [4,5,42,43,44,45,46,47,48,49,50,51,52,53,54,55,56,57,58,59,60] [] [] (fun a=>[(5,.t (.sc (.int .i64 a.2)))]) (fun a=>[]) (fun a=>a.1≤fu∧zcd a.1 x1 x2 a.2=some r∧0≤a.2) (fu,0) ⟨Nat.le_refl _,F6,by simp⟩ ?_
 clear F6
 rintro ⟨fu,g7⟩ ⟨hl8,F7,hn_g7⟩
 dsimp only at hl8 F7 hn_g7 ⊢
 obtain _ | fu:=fu
 · rw [zcd] at F7;cases F7
 rw [zcd] at F7
 refine zb (zb (za ?_))
 refine s_mv ?_
 refine s_fa zD ?_
 refine zu yA24 ?_
 refine zF yU24 ?_
 refine s_lt ?_
 refine zf (zd ?_)
 refine zn F7 ?_ ?_<;>intro C9 F8
 refine zN 35 (fun B10=>?_)
 refine zi (zd (zb (zl (zb ?_))))
 refine zZ yMix (by kernel_rfl) ?_
 refine s_fa zD ?_
 refine zu yA24 ?_
 refine s_mv ?_
 obtain ⟨v11,V11,F9⟩:=zc F8
 refine zR Form.row V11 (Form.row_eq _) yE24 ?_
 refine zak yA32 yS32 ?_
 refine s_fa zD ?_
 refine zu yA24 ?_
 refine s_mv ?_
 obtain ⟨v12,V12,F10⟩:=zc F9
 refine zR Form.row V12 (Form.row_eq _) yE24 ?_
 refine zak yA32 yS32 ?_
 obtain ⟨v13,V13,F11⟩:=zc F10
 refine zx [] (ih_m_spec_FormSame fu (by omega) _ _ _ V13) ?_
 refine za3 ?_
 refine zam (by kernel_rfl) ?_
 refine zd ?_
 refine zn F11 ?_ ?_<;>intro C14 F12
 refine zb (za ?_)
 refine s_as ?_
 refine zf (zd (zh (zj (zg (zw (zj (zg (zm ?_))))))))
 cases F12
 exact zk [] [] Tryz.results73
 refine zi (zU (zd (za ?_)))
 refine s_mv ?_
 refine zH (zaq C9 B10 hn_g7) ?_
 refine s_as ?_
 refine zf ?_
 exact s_rn (fu,(g7+1)) ⟨by first | omega | (dsimp only;omega),F12,by first | omega | (dsimp only;omega)⟩
 refine zA (zq (zp (zr (zd (zb (za ?_))))))
 refine s_as ?_
 refine zf (zd (zh (zm ?_)))
 cases F8
 exact zk [] [] Tryz.results73
theorem m_spec_FormSame_all (fuel:Nat):zeU fuel:=by
 induction fuel using Nat.strongRecOn with
 | _ N ih =>
   cases N with
   | zero=>exact (by intro x1 x2 r h;rw [zbk] at h;cases h)
   | succ fu=>exact m_spec_FormSame_st fu (fun k hk=>(ih k (by omega)))
theorem zge (fuel:Nat):zeU fuel:=(m_spec_FormSame_all fuel)
def m_spec_l4In_AC (fuel:Nat):Prop:=∀ (x1:(List Form)) (x2:Form) (r:Bool),ze5 fuel x1 x2=some r→AC Tryz.prog 72 [.t (.sl (x1.map Form.row)),.ag [.t (.sc (.int .i64 x2.kind)),.t (.sc (.str x2.name)),.t (.sc (.int .i64 x2.n)),.t (.sl (x2.scopes.map rI)),.t (.sl (x2.kids.map Form.row))]] noOb (.t (.sc (.bool r))) noOb
theorem zgF (fuel:Nat):m_spec_l4In_AC fuel:=by
 intro x1 x2 r F0
 unfold ze5 at F0
 refine AC_i [.t (.sc (.bool r))] Tryz.func72 rfl Tryz.ntmps72 ?_
 intro C hC
 refine zb (za ?_)
 refine za7 ?_
 refine s_as ?_
 refine zf (zd (zb (zb (za ?_))))
 refine s_as ?_
 refine zf (zd (zl ?_))
 refine zaX (β:=Int) [4,5,6,7,8,9,10,11,12,13,14,15,16,17] [] [] (fun a=>[(5,.t (.sc (.int .i64 a.2)))]) (fun a=>[]) (fun a=>a.1≤fuel∧zda a.1 x1 x2 a.2=some r∧0≤a.2) (fuel,0) ⟨Nat.le_refl _,F0,by simp⟩ ?_
 clear F0
 rintro ⟨fu,g1⟩ ⟨hl2,F1,hn_g1⟩
 dsimp only at hl2 F1 hn_g1 ⊢
 obtain _ | fu:=fu
 · rw [zda] at F1;cases F1
 rw [zda] at F1
 refine zb (zb (za ?_))
 refine s_mv ?_
 refine s_mv ?_
 refine zF yU24 ?_
 refine s_lt ?_
 refine zf (zd ?_)
 refine zn F1 ?_ ?_<;>intro C3 F2
 refine zN 0 (fun B4=>?_)
 refine zi (zd (zb (zl (zb ?_))))
 refine zZ yMix (by kernel_rfl) ?_
 refine s_mv ?_
 refine s_mv ?_
 obtain ⟨v5,V5,F3⟩:=zc F2
 refine zR Form.row V5 (Form.row_eq _) yE24 ?_
 refine zak yA32 yS32 ?_
 refine zI yA32 yS32 ?_
 obtain ⟨v6,V6,F4⟩:=zc F3
 refine zx [] (zge fu _ _ _ V6) ?_
 refine zam (by kernel_rfl) ?_
 refine zd ?_
 refine zn F4 ?_ ?_<;>intro C7 F5
 refine zb (za ?_)
 refine s_as ?_
 refine zf (zd (zh (zj (zg (zw (zj (zg (zm ?_))))))))
 cases F5
 exact zk [] [] Tryz.results72
 refine zi (zU (zd (za ?_)))
 refine s_mv ?_
 refine zH (zaq C3 B4 hn_g1) ?_
 refine s_as ?_
 refine zf ?_
 exact s_rn (fu,(g1+1)) ⟨by first | omega | (dsimp only;omega),F5,by first | omega | (dsimp only;omega)⟩
 refine zA (zq (zp (zr (zd (zb (za ?_))))))
 refine s_as ?_
 refine zf (zd (zh (zm ?_)))
 cases F2
 exact zk [] [] Tryz.results72
def m_spec_l4Literals_AC (fuel:Nat):Prop:=∀ (x1:(List Form)) (r:Bool),zdg fuel x1=some r→AC Tryz.prog 71 [.t (.sl (x1.map Form.row))] noOb (.t (.sc (.bool r))) noOb
theorem zgW (fuel:Nat):m_spec_l4Literals_AC fuel:=by
 intro x1 r F0
 unfold zdg at F0
 refine AC_i [.t (.sc (.bool r))] Tryz.func71 rfl Tryz.ntmps71 ?_
 intro C hC
 refine zb (za ?_)
 refine s_as ?_
 refine zf (zd (zb (zb (za ?_))))
 refine s_as ?_
 refine zf (zd (zl ?_))
 refine zaX (β:=Int) [2,3,4,5,6,7,8,9,10,11,12,13,14,15,16,17,18,19,20,21,22,23,24,25,26,27,28,29,30,31,32,33,34,35,36,37,38,39,40,41,42,43,44,45] [] [] (fun a=>[(3,.t (.sc (.int .i64 a.2)))]) (fun a=>[]) (fun a=>a.1≤fuel∧zbm a.1 x1 a.2=some r) (fuel,0) ⟨Nat.le_refl _,F0⟩ ?_
 clear F0
 rintro ⟨fu,g1⟩ ⟨hl2,F1⟩
 dsimp only at hl2 F1 ⊢
 obtain _ | fu:=fu
 · rw [zbm] at F1;cases F1
 rw [zbm] at F1
 refine zb (zb (za ?_))
 refine s_mv ?_
 refine s_mv ?_
 refine zF yU24 ?_
 refine s_lt ?_
 refine s_mv ?_
 refine zo _ 8 F1 ?_ ?_<;>intro C3 F2
 refine s_mv ?_
 refine s_lt ?_
 refine zz ?_
 refine zf (zd ?_)
 refine zn F2 ?_ ?_<;>intro C4 F3
 refine zi (zd (zb (zl (zb ?_))))
 refine zZ yMix (by kernel_rfl) ?_
 refine s_mv ?_
 refine s_mv ?_
 obtain ⟨v5,V5,F4⟩:=zc F3
 refine zR Form.row V5 (Form.row_eq _) yE24 ?_
 refine zak yA32 yS32 ?_
 obtain ⟨v6,V6,F5⟩:=zc F4
 refine zx [] (m_spec_l3Is_ok fu _ _ V6) ?_
 refine za3 ?_
 refine s_mv ?_
 refine zo _ 20 F5 ?_ ?_<;>intro C7 F6
 iterate 6 refine r_no rfl ?_
 refine zz ?_
 refine s_mv ?_
 iterate 6 refine r_no rfl ?_
 refine zz ?_
 refine s_mv ?_
 iterate 8 refine r_no rfl ?_
 refine zz ?_
 refine zam (by kernel_rfl) ?_
 refine zd (zK rfl (zb (za ?_)))
 refine s_as ?_
 refine zf (zd (zh (zj (zg (zw (zj (zg (zm ?_))))))))
 cases F6
 exact zk [] [] Tryz.results71
 refine s_mv ?_
 refine s_mv ?_
 obtain ⟨v8,V8,F7⟩:=zc F6
 refine zR Form.row V8 (Form.row_eq _) yE24 ?_
 refine s_fa zcB ?_
 refine zu yA9 ?_
 refine zhn ?_
 refine zy ?_
 refine s_mv ?_
 refine zo _ 28 F7 ?_ ?_<;>intro C9 F8
 iterate 6 refine r_no rfl ?_
 refine zz ?_
 refine s_mv ?_
 iterate 8 refine r_no rfl ?_
 refine zz ?_
 refine zam (by kernel_rfl) ?_
 refine zd (zK rfl (zb (za ?_)))
 refine s_as ?_
 refine zf (zd (zh (zj (zg (zw (zj (zg (zm ?_))))))))
 cases F8
 exact zk [] [] Tryz.results71
 refine s_mv ?_
 refine s_mv ?_
 obtain ⟨v10,V10,F9⟩:=zc F8
 refine zR Form.row V10 (Form.row_eq _) yE24 ?_
 refine s_fa zcB ?_
 refine zu yA9 ?_
 refine zhn ?_
 refine zy ?_
 refine s_mv ?_
 refine zo _ 36 F9 ?_ ?_<;>intro C11 F10
 iterate 8 refine r_no rfl ?_
 refine zz ?_
 refine zam (by kernel_rfl) ?_
 refine zd (zK rfl (zb (za ?_)))
 refine s_as ?_
 refine zf (zd (zh (zj (zg (zw (zj (zg (zm ?_))))))))
 cases F10
 exact zk [] [] Tryz.results71
 refine s_mv ?_
 refine s_mv ?_
 obtain ⟨v12,V12,F11⟩:=zc F10
 refine s_sl01 Form.row (fun y=>Form.row_len y) V12 yU24 yE24 ?_
 refine s_mv ?_
 refine s_mv ?_
 obtain ⟨v13,V13,F12⟩:=zc F11
 refine zR Form.row V13 (Form.row_eq _) yE24 ?_
 refine zak yA32 yS32 ?_
 obtain ⟨v14,V14,F13⟩:=zc F12
 refine zx [] (zgF fu _ _ _ V14) ?_
 refine zy ?_
 refine zam (by kernel_rfl) ?_
 refine zd ?_
 refine zn F13 ?_ ?_<;>intro C15 F14
 refine zb (za ?_)
 refine s_as ?_
 refine zf (zd (zh (zj (zg (zw (zj (zg (zm ?_))))))))
 cases F14
 exact zk [] [] Tryz.results71
 refine zi (zU (zd (za ?_)))
 refine s_mv ?_
 refine zH rfl ?_
 refine s_as ?_
 refine zf ?_
 exact s_rn (fu,(w64 (g1+1))) ⟨by first | omega | (dsimp only;omega),F14⟩
 refine zA (zq (zp (zr (zd (zb (za ?_))))))
 refine s_mv ?_
 refine zF yU24 ?_
 refine s_lt ?_
 refine s_as ?_
 refine zf (zd (zh (zm ?_)))
 cases F3
 exact zk [] [] Tryz.results71
 refine r_no rfl (r_no rfl ?_)
 refine zy ?_
 refine zf (zd (zaP rfl (zA (zq (zp (zr (zd (zb (za ?_)))))))))
 refine s_mv ?_
 refine zF yU24 ?_
 refine s_lt ?_
 refine s_as ?_
 refine zf (zd (zh (zm ?_)))
 cases F2
 exact zk [] [] Tryz.results71
def m_spec_l4Dots_AC (fuel:Nat):Prop:=∀ (x1:Form) (r:Bool),zbd fuel x1=some r→AC Tryz.prog 74 [.ag [.t (.sc (.int .i64 x1.kind)),.t (.sc (.str x1.name)),.t (.sc (.int .i64 x1.n)),.t (.sl (x1.scopes.map rI)),.t (.sl (x1.kids.map Form.row))]] noOb (.t (.sc (.bool r))) noOb
theorem za0 (fuel:Nat):m_spec_l4Dots_AC fuel:=by
 intro x1 r F0
 unfold zbd at F0
 refine AC_i [.t (.sc (.bool r))] Tryz.func74 rfl Tryz.ntmps74 ?_
 intro C hC
 refine zb (za ?_)
 refine za7 ?_
 refine s_as ?_
 refine zf (zd (zb (za ?_)))
 refine s_fa zcN ?_
 refine zu yA3 ?_
 refine s_eq ?_
 refine s_mv ?_
 refine zo _ 6 F0 ?_ ?_<;>intro C1 F1
 refine s_fa zcB ?_
 refine zu yA9 ?_
 refine zhn ?_
 refine zz ?_
 refine s_as ?_
 refine zf (zd (zh (zm ?_)))
 cases F1
 exact zk [] [] Tryz.results74
 iterate 3 refine r_no rfl ?_
 refine zy ?_
 refine s_as ?_
 refine zf (zd (zh (zm ?_)))
 cases F1
 exact zk [] [] Tryz.results74
def zfk (fuel:Nat):Prop:=∀ (x1:Form) (r:Bool),zdI fuel x1=some r→AC Tryz.prog 117 [.ag [.t (.sc (.int .i64 x1.kind)),.t (.sc (.str x1.name)),.t (.sc (.int .i64 x1.n)),.t (.sl (x1.scopes.map rI)),.t (.sl (x1.kids.map Form.row))]] noOb (.t (.sc (.bool r))) noOb
theorem m_spec_l4Shape_st (fu:Nat) (ih_m_spec_l4Shape:∀ k,k≤fu→zfk k):zfk (fu+1):=by
 intro x1 r F0
 rw [zdI] at F0
 refine AC_i [.t (.sc (.bool r))] Tryz.func117 rfl Tryz.ntmps117 ?_
 intro C hC
 refine zb (za ?_)
 refine za7 ?_
 refine s_as ?_
 refine zf (zd (zb (zb (za ?_))))
 refine zI yA32 yS32 ?_
 obtain ⟨v1,V1,F1⟩:=zc F0
 refine zx [] (za0 fu _ _ V1) ?_
 refine zf (zd ?_)
 refine zn F1 ?_ ?_<;>intro C2 F2
 refine zb (za ?_)
 refine s_as ?_
 refine zf (zd (zh (zg (zm ?_))))
 cases F2
 exact zk [] [] Tryz.results117
 refine zi (zd (zb (za ?_)))
 refine s_as ?_
 refine zf (zd (zb (zb (za ?_))))
 refine s_as ?_
 refine zf (zd (zl ?_))
 refine zaX (β:=Int × Int) [2,3,4,7,8,9,10,11,12,13,14,15,16,17,18,19,20,21,22,23,24,25,26,27,28,29,30,31,32,33,34,35,36,37,38,39] [] [] (fun a=>[(3,.t (.sc (.int .i64 a.2.1))),(4,.t (.sc (.int .i64 a.2.2)))]) (fun a=>[]) (fun a=>a.1≤fu∧zbO a.1 x1 a.2.1 a.2.2=some r∧0≤a.2.2) (fu,0,0) ⟨Nat.le_refl _,F2,by simp⟩ ?_
 clear F2
 rintro ⟨fu,g3,g4⟩ ⟨hl5,F3,hn_g4⟩
 dsimp only at hl5 F3 hn_g4 ⊢
 obtain _ | fu:=fu
 · rw [zbO] at F3;cases F3
 rw [zbO] at F3
 refine zb (zb (za ?_))
 refine s_mv ?_
 refine s_fa zD ?_
 refine zu yA24 ?_
 refine zF yU24 ?_
 refine s_lt ?_
 refine zf (zd ?_)
 refine zn F3 ?_ ?_<;>intro C6 F4
 refine zN 9 (fun B7=>?_)
 refine zi (zd (zb (zl (zb (zb (za ?_))))))
 refine s_fa zD ?_
 refine zu yA24 ?_
 refine s_mv ?_
 obtain ⟨v8,V8,F5⟩:=zc F4
 refine zR Form.row V8 (Form.row_eq _) yE24 ?_
 refine zak yA32 yS32 ?_
 obtain ⟨v9,V9,F6⟩:=zc F5
 refine zx [] (za0 fu _ _ V9) ?_
 refine zf (zd ?_)
 refine zn F6 ?_ ?_<;>intro C10 F7
 refine zb (za ?_)
 refine s_mv ?_
 refine zH rfl ?_
 refine s_as ?_
 refine zf (zd (zb (zb (za ?_))))
 refine s_mv ?_
 refine s_eq ?_
 refine s_mv ?_
 refine zo _ 24 F7 ?_ ?_<;>intro C11 F8
 iterate 7 refine r_no rfl ?_
 refine zz ?_
 refine zf (zd (zK rfl (zb (za ?_))))
 refine s_as ?_
 refine zf (zd (zh (zg (zg (zj (zg (zw (zj (zg (zm ?_))))))))))
 cases F8
 exact zk [] [] Tryz.results117
 refine s_fa zD ?_
 refine zu yA24 ?_
 refine s_mv ?_
 refine s_sub rfl ?_
 obtain ⟨v12,V12,F9⟩:=zc F8
 refine zR Form.row V12 (Form.row_eq _) yE24 ?_
 refine zak yA32 yS32 ?_
 obtain ⟨v13,V13,F10⟩:=zc F9
 refine zx [] (za0 fu _ _ V13) ?_
 refine zy ?_
 refine zf (zd ?_)
 refine zn F10 ?_ ?_<;>intro C14 F11
 refine zb (za ?_)
 refine s_as ?_
 refine zf (zd (zh (zg (zg (zj (zg (zw (zj (zg (zm ?_))))))))))
 cases F11
 exact zk [] [] Tryz.results117
 refine zi (zd (zA (zq (zr (zd (za ?_))))))
 refine s_mv ?_
 refine zH (zaq C6 B7 hn_g4) ?_
 refine s_as ?_
 refine zf ?_
 exact s_rn (fu,(w64 (g3+1)),(g4+1)) ⟨by first | omega | (dsimp only;omega),F11,by first | omega | (dsimp only;omega)⟩
 refine zi (zd (zb (za ?_)))
 refine s_fa zD ?_
 refine zu yA24 ?_
 refine s_mv ?_
 obtain ⟨v15,V15,F8⟩:=zc F7
 refine zR Form.row V15 (Form.row_eq _) yE24 ?_
 refine zak yA32 yS32 ?_
 obtain ⟨v16,V16,F9⟩:=zc F8
 refine zx [] (ih_m_spec_l4Shape fu (by omega) _ _ V16) ?_
 refine za3 ?_
 refine zf (zd ?_)
 refine zn F9 ?_ ?_<;>intro C17 F10
 refine zb (za ?_)
 refine s_as ?_
 refine zf (zd (zh (zj (zg (zw (zj (zg (zm ?_))))))))
 cases F10
 exact zk [] [] Tryz.results117
 refine zi (zU (zd (za ?_)))
 refine s_mv ?_
 refine zH (zaq C6 B7 hn_g4) ?_
 refine s_as ?_
 refine zf ?_
 exact s_rn (fu,g3,(g4+1)) ⟨by first | omega | (dsimp only;omega),F10,by first | omega | (dsimp only;omega)⟩
 refine zA (zq (zp (zr (zd (zb (za ?_))))))
 refine s_mv ?_
 refine s_le ?_
 refine s_as ?_
 refine zf (zd (zh (zm ?_)))
 cases F4
 exact zk [] [] Tryz.results117
end Go.Abs
