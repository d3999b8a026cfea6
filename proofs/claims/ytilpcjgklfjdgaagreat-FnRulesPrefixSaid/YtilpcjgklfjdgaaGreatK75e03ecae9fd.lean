/- A part of the proof: what the functions that the law calls answer, as pure values. -/
import Derived.Test.YtilpcjgklfjdgaaGreatKb8c86019bdb7
import Derived.Test.YtilpcjgklfjdgaaGreatKbeececb3b691
import Derived.Test.YtilpcjgklfjdgaaGreatKdfd114e1f3bb
import Derived.Test.YtilpcjgklfjdgaaGreatK25b6b0d87810
import Derived.Test.YtilpcjgklfjdgaaGreatK6646ba393ca5
set_option linter.unusedSimpArgs false
set_option linter.unusedVariables false
set_option maxRecDepth 100000
set_option maxHeartbeats 4000000
namespace Go.Abs
open Go.Proofs
def m_spec_l1Parse_AC (fuel:Nat):Prop:=∀ (x1:ByteArray) (r:Form),zen fuel x1=some r→AC Tryz.prog 62 [.t (.sc (.str x1))] noOb (.ag [.t (.sc (.int .i64 r.kind)),.t (.sc (.str r.name)),.t (.sc (.int .i64 r.n)),.t (.sl (r.scopes.map rI)),.t (.sl (r.kids.map Form.row))]) noOb
theorem zfW (fuel:Nat):m_spec_l1Parse_AC fuel:=by
 intro x1 r F0
 unfold zen at F0
 refine AC_i [.ag [.t (.sc (.int .i64 r.kind)),.t (.sc (.str r.name)),.t (.sc (.int .i64 r.n)),.t (.sl (r.scopes.map rI)),.t (.sl (r.kids.map Form.row))]] Tryz.func62 rfl Tryz.ntmps62 ?_
 intro C hC
 refine zb (za ?_)
 refine zU yZ32 ?_
 refine zf (zd (zb (za ?_)))
 refine s_mv ?_
 obtain ⟨v1,V1,F1⟩:=zc F0
 refine zv [] (m_spec_ParseForm_ok fuel _ _ V1) ?_
 refine s_mv ?_
 refine zbf ?_
 refine zbf ?_
 refine zU yZ32 ?_
 refine zac yS32 ?_
 refine s_as ?_
 refine zf (zd (zb (za ?_)))
 refine zI yA32 yS32 ?_
 refine zac yS32 ?_
 refine zf (zd (zh (zn ?_)))
 cases F1
 exact z4 [] [] (by rw [Tryz.results62];exact (zat (by conv=>lhs;whnf) (by conv=>lhs;whnf) yA32 yS32 rfl zaf))
def zgx (fuel:Nat):Prop:=∀ (x1:Form) (r:Form),zcb fuel x1=some r→AC Tryz.prog 85 [.ag [.t (.sc (.int .i64 x1.kind)),.t (.sc (.str x1.name)),.t (.sc (.int .i64 x1.n)),.t (.sl (x1.scopes.map rI)),.t (.sl (x1.kids.map Form.row))]] (objs []) (.ag [.t (.sc (.int .i64 r.kind)),.t (.sc (.str r.name)),.t (.sc (.int .i64 r.n)),.ar 9203,.ar 9204]) (objs [(9203,.arr (r.scopes.map rI) 3 true),(9204,.arr (r.kids.map Form.row) 32 true)])
theorem m_spec_l1Copy_st (fu:Nat) (ih_m_spec_l1Copy:∀ k,k≤fu→zgx k):zgx (fu+1):=by
 intro x1 r F0
 rw [zcb] at F0
 refine AC_i [.ag [.t (.sc (.int .i64 r.kind)),.t (.sc (.str r.name)),.t (.sc (.int .i64 r.n)),.ar 9203,.ar 9204]] Tryz.func85 rfl Tryz.ntmps85 ?_
 intro C hC
 refine zb (za ?_)
 refine zaL ?_
 refine zU yZ32 ?_
 refine zf (zd (zb ?_))
 refine zO yMix (by kernel_rfl) ?_
 refine s_fa zcY ?_
 refine zu yA3 ?_
 refine s_fa zcm ?_
 refine zu yA9 ?_
 refine s_fa zhq ?_
 refine zu yA3 ?_
 refine s_bs rI ([]:List Int) yP27 yR3 ?_
 refine s_fa zf3 ?_
 refine zu yA27 ?_
 obtain ⟨hk1,F1⟩:=zad F0
 refine zek rI (fun _=>rfl) hk1 yP27 ?_
 refine zgD yZ32 yL32 ?_
 refine zU yZ32 ?_
 refine zac yS32 ?_
 refine zae (by kernel_rfl) ?_
 refine zd (zb (zb (za ?_)))
 refine s_as ?_
 refine zf (zd (zl ?_))
 refine awp_ownB 3 5020 32 [.t (.sc (.int .i64 x1.kind)),.t (.sc (.str x1.name)),.t (.sc (.int .i64 x1.n)),.ar 14,.ar 5020] yI32.choose_spec ?_
 refine zal [4,16,17,18,19,20,21,22,23,24,25,26,27,28,29,30,31,32,33] [3,5020] [31,32,2030,12030] [5020] (fun a:Nat × Int × (List Form)=>a.1) (fun a:Nat × Int × (List Form)=>[(4,.t (.sc (.int .i64 a.2.1)))]) (fun a:Nat × Int × (List Form)=>[(3,.box [.t (.sc (.int .i64 x1.kind)),.t (.sc (.str x1.name)),.t (.sc (.int .i64 x1.n)),.ar 14,.ar 5020]),(5020,.arr (a.2.2.map Form.row) 32 true)]) (fun a:Nat × Int × (List Form)=>a.1≤fu∧zcI a.1 x1 a.2.1 a.2.2=some r∧0≤a.2.1) (fu,0,([]:List Form)) ⟨Nat.le_refl _,F1,by simp⟩ (by rfl) (by rfl) (fun _=>rfl) (zH (by conv=>lhs;whnf) (by rfl) zaV) (zL (by conv=>lhs;whnf) (by rfl) (zL (by conv=>lhs;whnf) (by rfl) zaG)) (zbM hC rfl) (by repeat (first | exact z6 rfl | refine zaj rfl ?_ | refine zP rfl ?_)) (by repeat (first | exact zax | exact z9 rfl | refine zak rfl ?_ | refine zQ rfl ?_)) ?_
 clear F1
 rintro ⟨fu,g2,g3⟩ ⟨hl4,F2,hn_g2⟩
 dsimp only at hl4 F2 hn_g2 ⊢
 obtain _ | fu:=fu
 · rw [zcI] at F2;cases F2
 rw [zcI] at F2
 refine zb (zb (za ?_))
 refine s_mv ?_
 refine s_fa zF ?_
 refine zu yA24 ?_
 refine zC yU24 ?_
 refine s_lt ?_
 refine zf (zd ?_)
 refine zm F2 ?_ ?_<;>intro C5 F3
 refine zM 18 (fun B6=>?_)
 refine zi (zd (zb (zl ?_)))
 refine zO yMix (by kernel_rfl) ?_
 refine s_fa zF ?_
 refine zu yA24 ?_
 refine s_fa zF ?_
 refine zu yA24 ?_
 refine s_mv ?_
 obtain ⟨v7,V7,F4⟩:=zc F3
 refine zK Form.row V7 (Form.row_eq _) yE24 ?_
 refine zam yA32 yS32 ?_
 obtain ⟨v8,V8,F5⟩:=zc F4
 refine zY [(9203,2030),(9204,12030)] [] _ _ (ih_m_spec_l1Copy fu (by omega) _ _ V8) ?_
 refine s_bs Form.row [v8] yP24 yR32 ?_
 obtain ⟨hk9,F6⟩:=zad F5
 refine zek Form.row (fun y=>Form.row_len y) hk9 yP24 ?_
 refine s_fa zF ?_
 refine zia yS24 ?_
 refine zae (by kernel_rfl) ?_
 refine zW (zd (za ?_))
 refine s_mv ?_
 refine zJ (zas C5 B6 hn_g2) ?_
 refine s_as ?_
 refine zf ?_
 exact s_rn (fu,(g2+1),(g3++[v8])) ⟨by first | omega | (dsimp only;omega),F6,by first | omega | (dsimp only;omega)⟩ [(5020,32)]
 refine zy (zq (zo (zr (zd (zb (za ?_))))))
 refine zI yA32 yS32 ?_
 refine zac yS32 ?_
 refine zf (zd ?_)
 refine zeR 2 14 9203 [.t (.sc (.int .i64 x1.kind)),.t (.sc (.str x1.name)),.t (.sc (.int .i64 x1.n)),.ar 9203,.ar 5020] ?_
 refine zeR 2 5020 9204 [.t (.sc (.int .i64 x1.kind)),.t (.sc (.str x1.name)),.t (.sc (.int .i64 x1.n)),.ar 9203,.ar 9204] ?_
 refine zh (zn ?_)
 cases F3
 exact z4 _ [] (by rw [Tryz.results85];exact (zat (by conv=>lhs;whnf) (by conv=>lhs;whnf) yA32 yS32 rfl zaf))
theorem m_spec_l1Copy_all (fuel:Nat):zgx fuel:=by
 induction fuel using Nat.strongRecOn with
 | _ N ih =>
   cases N with
   | zero=>exact (by intro x1 r h;rw [zcb] at h;cases h)
   | succ fu=>exact m_spec_l1Copy_st fu (fun k hk=>(ih k (by omega)))
theorem zd7 (fuel:Nat):zgx fuel:=(m_spec_l1Copy_all fuel)
def m_spec_l15Rd_num_AC (fuel:Nat):Prop:=∀ (o1:zb7) (x2:(List Int)) (r:(Int × zb7)),zaO fuel o1 x2=some r→AC Tryz.prog 120 [.rf 9000 0,.t (.sl (x2.map rI))] (objs [(9000,.box [.t (.sl (o1.b.map rB)),.t (.sc (.int .i64 o1.p))])]) (.t (.sc (.int .i64 r.1))) (objs [(9000,.box [.t (.sl (r.2.b.map rB)),.t (.sc (.int .i64 r.2.p))])])
theorem zcQ (fuel:Nat):m_spec_l15Rd_num_AC fuel:=by
 intro o1 x2 r F0
 unfold zaO at F0
 refine AC_i [.t (.sc (.int .i64 r.1))] Tryz.func120 rfl Tryz.ntmps120 ?_
 intro C hC
 refine zb (za ?_)
 refine s_as ?_
 refine zf (zd (zb (za ?_)))
 iterate 3 refine s_mv ?_
 refine zC yU27 ?_
 obtain ⟨v1,V1,F1⟩:=zc F0
 refine zY [(9000,9000)] [] _ _ (zaA fuel _ _ _ V1) ?_
 obtain ⟨v2,V2,F2⟩:=zc F1
 refine zK rI V2 rfl yE27 ?_
 refine zu yA3 ?_
 refine s_as ?_
 refine zf (zd (zh (zn ?_)))
 cases F2
 exact zk _ [] Tryz.results120
def m_spec_l15Rd_of_AC (fuel:Nat):Prop:=∀ (o1:zb7) (x2:(List ByteArray)) (r:(ByteArray × zb7)),zdT fuel o1 x2=some r→AC Tryz.prog 86 [.rf 9000 0,.t (.sl (x2.map rS))] (objs [(9000,.box [.t (.sl (o1.b.map rB)),.t (.sc (.int .i64 o1.p))])]) (.t (.sc (.str r.1))) (objs [(9000,.box [.t (.sl (r.2.b.map rB)),.t (.sc (.int .i64 r.2.p))])])
theorem zij (fuel:Nat):m_spec_l15Rd_of_AC fuel:=by
 intro o1 x2 r F0
 unfold zdT at F0
 refine AC_i [.t (.sc (.str r.1))] Tryz.func86 rfl Tryz.ntmps86 ?_
 intro C hC
 refine zb (za ?_)
 refine s_as ?_
 refine zf (zd (zb (za ?_)))
 iterate 3 refine s_mv ?_
 refine zC yU51 ?_
 obtain ⟨v1,V1,F1⟩:=zc F0
 refine zY [(9000,9000)] [] _ _ (zaA fuel _ _ _ V1) ?_
 obtain ⟨v2,V2,F2⟩:=zc F1
 refine zK rS V2 rfl yE51 ?_
 refine zu yA9 ?_
 refine s_as ?_
 refine zf (zd (zh (zn ?_)))
 cases F2
 exact zk _ [] Tryz.results86
def zfs (fuel:Nat):Prop:=∀ (o1:zb7) (x2:Form) (r:(Form × zb7)),zaz fuel o1 x2=some r→AC Tryz.prog 63 [.rf 9000 0,.ag [.t (.sc (.int .i64 x2.kind)),.t (.sc (.str x2.name)),.t (.sc (.int .i64 x2.n)),.t (.sl (x2.scopes.map rI)),.t (.sl (x2.kids.map Form.row))]] (objs [(9000,.box [.t (.sl (o1.b.map rB)),.t (.sc (.int .i64 o1.p))])]) (.ag [.t (.sc (.int .i64 r.1.kind)),.t (.sc (.str r.1.name)),.t (.sc (.int .i64 r.1.n)),.t (.sl (r.1.scopes.map rI)),.t (.sl (r.1.kids.map Form.row))]) (objs [(9000,.box [.t (.sl (r.2.b.map rB)),.t (.sc (.int .i64 r.2.p))])])
theorem m_spec_l1Mutate_st (fu:Nat) (ih_m_spec_l1Mutate:∀ k,k≤fu→zfs k):zfs (fu+1):=by
 intro o1 x2 r F0
 rw [zaz] at F0
 refine AC_i [.ag [.t (.sc (.int .i64 r.1.kind)),.t (.sc (.str r.1.name)),.t (.sc (.int .i64 r.1.n)),.t (.sl (r.1.scopes.map rI)),.t (.sl (r.1.kids.map Form.row))]] Tryz.func63 rfl Tryz.ntmps63 ?_
 intro C hC
 refine zb (za ?_)
 refine zaL ?_
 refine zU yZ32 ?_
 refine zf (zd (zb (za ?_)))
 refine zI yA32 yS32 ?_
 obtain ⟨v1,V1,F1⟩:=zc F0
 refine zY [(9203,2008),(9204,12008)] [] _ _ (zd7 fu _ _ V1) ?_
 refine zU yZ32 ?_
 refine zac yS32 ?_
 refine zf (zd (zb (zb (za ?_))))
 refine s_fa zF ?_
 refine zu yA24 ?_
 refine zg8 yU24 ?_
 refine s_gt ?_
 refine s_mv ?_
 refine zp _ 13 F1 ?_ ?_<;>intro C2 F2
 refine s_mv ?_
 obtain ⟨v3,V3,F3⟩:=zc F2
 refine zY [(9000,9000)] [] _ _ (zaA fu _ _ _ V3) ?_
 refine s_gt ?_
 refine zA ?_
 refine zf (zd ?_)
 refine zm F3 ?_ ?_<;>intro C4 F4
 refine zb (za ?_)
 refine s_mv ?_
 refine s_fa zF ?_
 refine zu yA24 ?_
 refine zg8 yU24 ?_
 obtain ⟨v5,V5,F5⟩:=zc F4
 refine zY [(9000,9000)] [] _ _ (zaA fu _ _ _ V5) ?_
 refine s_as ?_
 refine zf (zd (zb ?_))
 refine zO yMix (by kernel_rfl) ?_
 refine s_fa zF ?_
 refine zu yA24 ?_
 refine s_mv ?_
 refine s_mv ?_
 refine s_fa zF ?_
 refine zu yA24 ?_
 refine s_mv ?_
 obtain ⟨v6,V6,F6⟩:=zc F5
 refine zis Form.row V6 yE24 ?_
 refine s_lAN Form.row V6 (Form.row_eq _) yA32 yS32 ?_
 obtain ⟨v7,V7,F7⟩:=zc F6
 refine zY [(9000,9000)] [] _ _ (ih_m_spec_l1Mutate fu (by omega) _ _ _ V7) ?_
 obtain ⟨v8,V8,F8⟩:=zc F7
 refine zis Form.row V8 yE24 ?_
 refine s_stA Form.row v7.1 V8 (Form.row_eq _) (Form.row_eq _) yS32 yS32 ?_
 refine zae (by kernel_rfl) ?_
 refine zd (zb (za ?_))
 refine zI yA32 yS32 ?_
 refine zac yS32 ?_
 refine zf (zd (zh (zg (zn ?_))))
 cases F8
 exact z4 _ [2008,12008] (by rw [Tryz.results63];exact (zat (by conv=>lhs;whnf) (by conv=>lhs;whnf) yA32 yS32 rfl zaf))
 refine zi (zd (zb (zb (za ?_))))
 refine s_mv ?_
 obtain ⟨v9,V9,F5⟩:=zc F4
 refine zY [(9000,9000)] [] _ _ (zaA fu _ _ _ V9) ?_
 refine zf (zd (zl (zb (za ?_))))
 refine s_eq ?_
 refine s_as ?_
 refine zf (zd ?_)
 refine zm F5 ?_ ?_<;>intro C10 F6
 refine za ?_
 refine s_mv ?_
 refine s_bs rI [0,4,1,3] yP27 yR3 ?_
 obtain ⟨v11,V11,F7⟩:=zc F6
 refine zY [(9000,9000)] [40] _ _ (zcQ fu _ _ _ V11) ?_
 refine s_fa zcY ?_
 refine zia yS3 ?_
 refine zf (zW (zd (zb (za ?_))))
 refine zI yA32 yS32 ?_
 refine zac yS32 ?_
 refine zf (zd (zh (zn ?_)))
 cases F7
 exact z4 _ [2008,12008] (by rw [Tryz.results63];exact (zat (by conv=>lhs;whnf) (by conv=>lhs;whnf) yA32 yS32 rfl zaf))
 refine zb (za ?_)
 refine s_eq ?_
 refine s_as ?_
 refine zf (zd ?_)
 refine zm F6 ?_ ?_<;>intro C12 F7
 refine za ?_
 refine s_mv ?_
 refine s_bs rS [(⟨#[]⟩:ByteArray),(⟨#[65]⟩:ByteArray),(⟨#[116,111,111,108,111,110,103,97,110,97,109,101,49]⟩:ByteArray),(⟨#[122]⟩:ByteArray),(⟨#[120,32,121]⟩:ByteArray)] yP51 yR9 ?_
 obtain ⟨v13,V13,F8⟩:=zc F7
 refine zY [(9000,9000)] [46] _ _ (zij fu _ _ _ V13) ?_
 refine s_fa zcm ?_
 refine zia yS9 ?_
 refine zf (zW (zd (zb (za ?_))))
 refine zI yA32 yS32 ?_
 refine zac yS32 ?_
 refine zf (zd (zh (zn ?_)))
 cases F8
 exact z4 _ [2008,12008] (by rw [Tryz.results63];exact (zat (by conv=>lhs;whnf) (by conv=>lhs;whnf) yA32 yS32 rfl zaf))
 refine zb (za ?_)
 refine s_eq ?_
 refine s_as ?_
 refine zf (zd ?_)
 refine zm F7 ?_ ?_<;>intro C14 F8
 refine za ?_
 refine s_mv ?_
 refine s_bs rI [1000,(-1),5] yP27 yR3 ?_
 obtain ⟨v15,V15,F9⟩:=zc F8
 refine zY [(9000,9000)] [52] _ _ (zcQ fu _ _ _ V15) ?_
 refine s_fa zhq ?_
 refine zia yS3 ?_
 refine zf (zW (zd (zb (za ?_))))
 refine zI yA32 yS32 ?_
 refine zac yS32 ?_
 refine zf (zd (zh (zn ?_)))
 cases F9
 exact z4 _ [2008,12008] (by rw [Tryz.results63];exact (zat (by conv=>lhs;whnf) (by conv=>lhs;whnf) yA32 yS32 rfl zaf))
 refine zb (za ?_)
 refine s_eq ?_
 refine s_as ?_
 refine zf (zd ?_)
 refine zm F8 ?_ ?_<;>intro C16 F9
 refine zO yMix (by kernel_rfl) ?_
 refine s_fa zf3 ?_
 refine zu yA27 ?_
 refine s_mv ?_
 refine s_bs rI [0,100,1,50] yP27 yR3 ?_
 obtain ⟨v17,V17,F10⟩:=zc F9
 refine zY [(9000,9000)] [60] _ _ (zcQ fu _ _ _ V17) ?_
 refine s_bs rI [v17.1] yP27 yR3 ?_
 obtain ⟨hk18,F11⟩:=zad F10
 refine zek rI (fun _=>rfl) hk18 yP27 ?_
 refine s_fa zf3 ?_
 refine zia yS27 ?_
 refine zae (by kernel_rfl) ?_
 refine zW (zd (zb (za ?_)))
 refine zI yA32 yS32 ?_
 refine zac yS32 ?_
 refine zf (zd (zh (zn ?_)))
 cases F11
 exact z4 _ [63,12008] (by rw [Tryz.results63];exact (zat (by conv=>lhs;whnf) (by conv=>lhs;whnf) yA32 yS32 rfl zaf))
 refine zi (zW (zd (zb (za ?_))))
 refine zI yA32 yS32 ?_
 refine zac yS32 ?_
 refine zf (zd (zh (zn ?_)))
 cases F9
 exact z4 _ [2008,12008] (by rw [Tryz.results63];exact (zat (by conv=>lhs;whnf) (by conv=>lhs;whnf) yA32 yS32 rfl zaf))
 iterate 3 refine r_no rfl ?_
 refine zz ?_
 refine zf (zd (zaX rfl (zi (zd (zb (zb (za ?_)))))))
 refine s_mv ?_
 obtain ⟨v19,V19,F3⟩:=zc F2
 refine zY [(9000,9000)] [] _ _ (zaA fu _ _ _ V19) ?_
 refine zf (zd (zl (zb (za ?_))))
 refine s_eq ?_
 refine s_as ?_
 refine zf (zd ?_)
 refine zm F3 ?_ ?_<;>intro C20 F4
 refine za ?_
 refine s_mv ?_
 refine s_bs rI [0,4,1,3] yP27 yR3 ?_
 obtain ⟨v21,V21,F5⟩:=zc F4
 refine zY [(9000,9000)] [40] _ _ (zcQ fu _ _ _ V21) ?_
 refine s_fa zcY ?_
 refine zia yS3 ?_
 refine zf (zW (zd (zb (za ?_))))
 refine zI yA32 yS32 ?_
 refine zac yS32 ?_
 refine zf (zd (zh (zn ?_)))
 cases F5
 exact z4 _ [2008,12008] (by rw [Tryz.results63];exact (zat (by conv=>lhs;whnf) (by conv=>lhs;whnf) yA32 yS32 rfl zaf))
 refine zb (za ?_)
 refine s_eq ?_
 refine s_as ?_
 refine zf (zd ?_)
 refine zm F4 ?_ ?_<;>intro C22 F5
 refine za ?_
 refine s_mv ?_
 refine s_bs rS [(⟨#[]⟩:ByteArray),(⟨#[65]⟩:ByteArray),(⟨#[116,111,111,108,111,110,103,97,110,97,109,101,49]⟩:ByteArray),(⟨#[122]⟩:ByteArray),(⟨#[120,32,121]⟩:ByteArray)] yP51 yR9 ?_
 obtain ⟨v23,V23,F6⟩:=zc F5
 refine zY [(9000,9000)] [46] _ _ (zij fu _ _ _ V23) ?_
 refine s_fa zcm ?_
 refine zia yS9 ?_
 refine zf (zW (zd (zb (za ?_))))
 refine zI yA32 yS32 ?_
 refine zac yS32 ?_
 refine zf (zd (zh (zn ?_)))
 cases F6
 exact z4 _ [2008,12008] (by rw [Tryz.results63];exact (zat (by conv=>lhs;whnf) (by conv=>lhs;whnf) yA32 yS32 rfl zaf))
 refine zb (za ?_)
 refine s_eq ?_
 refine s_as ?_
 refine zf (zd ?_)
 refine zm F5 ?_ ?_<;>intro C24 F6
 refine za ?_
 refine s_mv ?_
 refine s_bs rI [1000,(-1),5] yP27 yR3 ?_
 obtain ⟨v25,V25,F7⟩:=zc F6
 refine zY [(9000,9000)] [52] _ _ (zcQ fu _ _ _ V25) ?_
 refine s_fa zhq ?_
 refine zia yS3 ?_
 refine zf (zW (zd (zb (za ?_))))
 refine zI yA32 yS32 ?_
 refine zac yS32 ?_
 refine zf (zd (zh (zn ?_)))
 cases F7
 exact z4 _ [2008,12008] (by rw [Tryz.results63];exact (zat (by conv=>lhs;whnf) (by conv=>lhs;whnf) yA32 yS32 rfl zaf))
 refine zb (za ?_)
 refine s_eq ?_
 refine s_as ?_
 refine zf (zd ?_)
 refine zm F6 ?_ ?_<;>intro C26 F7
 refine zO yMix (by kernel_rfl) ?_
 refine s_fa zf3 ?_
 refine zu yA27 ?_
 refine s_mv ?_
 refine s_bs rI [0,100,1,50] yP27 yR3 ?_
 obtain ⟨v27,V27,F8⟩:=zc F7
 refine zY [(9000,9000)] [60] _ _ (zcQ fu _ _ _ V27) ?_
 refine s_bs rI [v27.1] yP27 yR3 ?_
 obtain ⟨hk28,F9⟩:=zad F8
 refine zek rI (fun _=>rfl) hk28 yP27 ?_
 refine s_fa zf3 ?_
 refine zia yS27 ?_
 refine zae (by kernel_rfl) ?_
 refine zW (zd (zb (za ?_)))
 refine zI yA32 yS32 ?_
 refine zac yS32 ?_
 refine zf (zd (zh (zn ?_)))
 cases F9
 exact z4 _ [63,12008] (by rw [Tryz.results63];exact (zat (by conv=>lhs;whnf) (by conv=>lhs;whnf) yA32 yS32 rfl zaf))
 refine zi (zW (zd (zb (za ?_))))
 refine zI yA32 yS32 ?_
 refine zac yS32 ?_
 refine zf (zd (zh (zn ?_)))
 cases F7
 exact z4 _ [2008,12008] (by rw [Tryz.results63];exact (zat (by conv=>lhs;whnf) (by conv=>lhs;whnf) yA32 yS32 rfl zaf))
theorem m_spec_l1Mutate_all (fuel:Nat):zfs fuel:=by
 induction fuel using Nat.strongRecOn with
 | _ N ih =>
   cases N with
   | zero=>exact (by intro o1 x2 r h;rw [zaz] at h;cases h)
   | succ fu=>exact m_spec_l1Mutate_st fu (fun k hk=>(ih k (by omega)))
theorem zfr (fuel:Nat):zfs fuel:=(m_spec_l1Mutate_all fuel)
def m_spec_l3Is_AC (fuel:Nat):Prop:=∀ (x1:Form) (r:Bool),zhY fuel x1=some r→AC Tryz.prog 124 [.ag [.t (.sc (.int .i64 x1.kind)),.t (.sc (.str x1.name)),.t (.sc (.int .i64 x1.n)),.t (.sl (x1.scopes.map rI)),.t (.sl (x1.kids.map Form.row))]] noOb (.t (.sc (.bool r))) noOb
theorem m_spec_l3Is_ok (fuel:Nat):m_spec_l3Is_AC fuel:=by
 intro x1 r F0
 unfold zhY at F0
 refine AC_i [.t (.sc (.bool r))] Tryz.func124 rfl Tryz.ntmps124 ?_
 intro C hC
 refine zb (za ?_)
 refine zaL ?_
 refine s_as ?_
 refine zf (zd (zb (za ?_)))
 refine s_fa zcY ?_
 refine zu yA3 ?_
 refine s_eq ?_
 refine s_mv ?_
 refine zp _ 6 F0 ?_ ?_<;>intro C1 F1
 refine zI yA32 yS32 ?_
 obtain ⟨v2,V2,F2⟩:=zc F1
 refine zv [] (zcd fuel _ _ V2) ?_
 refine zA ?_
 refine s_as ?_
 refine zf (zd (zh (zn ?_)))
 cases F2
 exact zk [] [] Tryz.results124
 refine r_no rfl (r_no rfl ?_)
 refine zz ?_
 refine s_as ?_
 refine zf (zd (zh (zn ?_)))
 cases F1
 exact zk [] [] Tryz.results124
def m_spec_l1Ints_AC (fuel:Nat):Prop:=∀ (x1:(List Int)) (x2:(List Int)) (r:Bool),zfX fuel x1 x2=some r→AC Tryz.prog 125 [.t (.sl (x1.map rI)),.t (.sl (x2.map rI))] noOb (.t (.sc (.bool r))) noOb
theorem m_spec_l1Ints_ok (fuel:Nat):m_spec_l1Ints_AC fuel:=by
 intro x1 x2 r F0
 unfold zfX at F0
 refine AC_i [.t (.sc (.bool r))] Tryz.func125 rfl Tryz.ntmps125 ?_
 intro C hC
 refine zb (za ?_)
 refine s_as ?_
 refine zf (zd (zb (zb (za ?_))))
 refine s_mv ?_
 refine zC yU27 ?_
 refine s_mv ?_
 refine zC yU27 ?_
 refine s_ne ?_
 refine zf (zd ?_)
 refine zm F0 ?_ ?_<;>intro C1 F1
 refine zb (za ?_)
 refine s_as ?_
 refine zf (zd (zh (zg (zn ?_))))
 cases F1
 exact zk [] [] Tryz.results125
 refine zi (zd (zb (zb (za ?_))))
 refine s_as ?_
 refine zf (zd (zl ?_))
 refine zaK (β:=Int) [4,5,11,12,13,14,15,16,17,18,19,20,21,22,23,24,25] [] [] (fun a=>[(5,.t (.sc (.int .i64 a.2)))]) (fun a=>[]) (fun a=>a.1≤fuel∧zds a.1 x1 x2 a.2=some r∧0≤a.2) (fuel,0) ⟨Nat.le_refl _,F1,by simp⟩ ?_
 clear F1
 rintro ⟨fu,g2⟩ ⟨hl3,F2,hn_g2⟩
 dsimp only at hl3 F2 hn_g2 ⊢
 obtain _ | fu:=fu
 · rw [zds] at F2;cases F2
 rw [zds] at F2
 refine zb (zb (za ?_))
 refine s_mv ?_
 refine s_mv ?_
 refine zC yU27 ?_
 refine s_lt ?_
 refine zf (zd ?_)
 refine zm F2 ?_ ?_<;>intro C4 F3
 refine zM 0 (fun B5=>?_)
 refine zi (zd (zb (zl (zb ?_))))
 refine zO yMix (by kernel_rfl) ?_
 refine s_mv ?_
 refine s_mv ?_
 obtain ⟨v6,V6,F4⟩:=zc F3
 refine zK rI V6 rfl yE27 ?_
 refine zu yA3 ?_
 refine s_mv ?_
 refine s_mv ?_
 obtain ⟨v7,V7,F5⟩:=zc F4
 refine zK rI V7 rfl yE27 ?_
 refine zu yA3 ?_
 refine s_ne ?_
 refine zae (by kernel_rfl) ?_
 refine zd ?_
 refine zm F5 ?_ ?_<;>intro C8 F6
 refine zb (za ?_)
 refine s_as ?_
 refine zf (zd (zh (zj (zg (zw (zj (zg (zn ?_))))))))
 cases F6
 exact zk [] [] Tryz.results125
 refine zi (zW (zd (za ?_)))
 refine s_mv ?_
 refine zJ (zas C4 B5 hn_g2) ?_
 refine s_as ?_
 refine zf ?_
 exact s_rn (fu,(g2+1)) ⟨by first | omega | (dsimp only;omega),F6,by first | omega | (dsimp only;omega)⟩
 refine zy (zq (zo (zr (zd (zb (za ?_))))))
 refine s_as ?_
 refine zf (zd (zh (zn ?_)))
 cases F3
 exact zk [] [] Tryz.results125
def zfu (fuel:Nat):Prop:=∀ (x1:Form) (x2:Form) (r:Bool),zaP fuel x1 x2=some r→AC Tryz.prog 75 [.ag [.t (.sc (.int .i64 x1.kind)),.t (.sc (.str x1.name)),.t (.sc (.int .i64 x1.n)),.t (.sl (x1.scopes.map rI)),.t (.sl (x1.kids.map Form.row))],.ag [.t (.sc (.int .i64 x2.kind)),.t (.sc (.str x2.name)),.t (.sc (.int .i64 x2.n)),.t (.sl (x2.scopes.map rI)),.t (.sl (x2.kids.map Form.row))]] noOb (.t (.sc (.bool r))) noOb
theorem m_spec_FormSame_st (fu:Nat) (ih_m_spec_FormSame:∀ k,k≤fu→zfu k):zfu (fu+1):=by
 intro x1 x2 r F0
 rw [zaP] at F0
 refine AC_i [.t (.sc (.bool r))] Tryz.func75 rfl Tryz.ntmps75 ?_
 intro C hC
 refine zb (za ?_)
 refine zaL ?_
 refine zaL ?_
 refine s_as ?_
 refine zf (zd (zb (zb (za ?_))))
 refine s_fa zcY ?_
 refine zu yA3 ?_
 refine s_fa zcY ?_
 refine zu yA3 ?_
 refine s_ne ?_
 refine s_mv ?_
 refine zp _ 11 F0 ?_ ?_<;>intro C1 F1
 iterate 5 refine r_no rfl ?_
 refine zA ?_
 refine s_mv ?_
 iterate 5 refine r_no rfl ?_
 refine zA ?_
 refine s_mv ?_
 iterate 6 refine r_no rfl ?_
 refine zA ?_
 refine s_mv ?_
 iterate 7 refine r_no rfl ?_
 refine zA ?_
 refine zf (zd (zT rfl (zb (za ?_))))
 refine s_as ?_
 refine zf (zd (zh (zg (zn ?_))))
 cases F1
 exact zk [] [] Tryz.results75
 refine s_fa zcm ?_
 refine zu yA9 ?_
 refine s_fa zcm ?_
 refine zu yA9 ?_
 refine s_neS ?_
 refine zz ?_
 refine s_mv ?_
 refine zp _ 18 F1 ?_ ?_<;>intro C2 F2
 iterate 5 refine r_no rfl ?_
 refine zA ?_
 refine s_mv ?_
 iterate 6 refine r_no rfl ?_
 refine zA ?_
 refine s_mv ?_
 iterate 7 refine r_no rfl ?_
 refine zA ?_
 refine zf (zd (zT rfl (zb (za ?_))))
 refine s_as ?_
 refine zf (zd (zh (zg (zn ?_))))
 cases F2
 exact zk [] [] Tryz.results75
 refine s_fa zhq ?_
 refine zu yA3 ?_
 refine s_fa zhq ?_
 refine zu yA3 ?_
 refine s_ne ?_
 refine zz ?_
 refine s_mv ?_
 refine zp _ 25 F2 ?_ ?_<;>intro C3 F3
 iterate 6 refine r_no rfl ?_
 refine zA ?_
 refine s_mv ?_
 iterate 7 refine r_no rfl ?_
 refine zA ?_
 refine zf (zd (zT rfl (zb (za ?_))))
 refine s_as ?_
 refine zf (zd (zh (zg (zn ?_))))
 cases F3
 exact zk [] [] Tryz.results75
 refine s_fa zf3 ?_
 refine zu yA27 ?_
 refine s_fa zf3 ?_
 refine zu yA27 ?_
 obtain ⟨v4,V4,F4⟩:=zc F3
 refine zv [] (m_spec_l1Ints_ok fu _ _ _ V4) ?_
 refine zaY ?_
 refine zz ?_
 refine s_mv ?_
 refine zp _ 33 F4 ?_ ?_<;>intro C5 F5
 iterate 7 refine r_no rfl ?_
 refine zA ?_
 refine zf (zd (zT rfl (zb (za ?_))))
 refine s_as ?_
 refine zf (zd (zh (zg (zn ?_))))
 cases F5
 exact zk [] [] Tryz.results75
 refine s_fa zF ?_
 refine zu yA24 ?_
 refine zC yU24 ?_
 refine s_fa zF ?_
 refine zu yA24 ?_
 refine zC yU24 ?_
 refine s_ne ?_
 refine zz ?_
 refine zf (zd ?_)
 refine zm F5 ?_ ?_<;>intro C6 F6
 refine zb (za ?_)
 refine s_as ?_
 refine zf (zd (zh (zg (zn ?_))))
 cases F6
 exact zk [] [] Tryz.results75
 refine zi (zd (zb (zb (za ?_))))
 refine s_as ?_
 refine zf (zd (zl ?_))
 refine zaK (β:=Int) [4,5,42,43,44,45,46,47,48,49,50,51,52,53,54,55,56,57,58,59,60] [] [] (fun a=>[(5,.t (.sc (.int .i64 a.2)))]) (fun a=>[]) (fun a=>a.1≤fu∧zcp a.1 x1 x2 a.2=some r∧0≤a.2) (fu,0) ⟨Nat.le_refl _,F6,by simp⟩ ?_
 clear F6
 rintro ⟨fu,g7⟩ ⟨hl8,F7,hn_g7⟩
 dsimp only at hl8 F7 hn_g7 ⊢
 obtain _ | fu:=fu
 · rw [zcp] at F7;cases F7
 rw [zcp] at F7
 refine zb (zb (za ?_))
 refine s_mv ?_
 refine s_fa zF ?_
 refine zu yA24 ?_
 refine zC yU24 ?_
 refine s_lt ?_
 refine zf (zd ?_)
 refine zm F7 ?_ ?_<;>intro C9 F8
 refine zM 35 (fun B10=>?_)
 refine zi (zd (zb (zl (zb ?_))))
 refine zO yMix (by kernel_rfl) ?_
 refine s_fa zF ?_
 refine zu yA24 ?_
 refine s_mv ?_
 obtain ⟨v11,V11,F9⟩:=zc F8
 refine zK Form.row V11 (Form.row_eq _) yE24 ?_
 refine zam yA32 yS32 ?_
 refine s_fa zF ?_
 refine zu yA24 ?_
 refine s_mv ?_
 obtain ⟨v12,V12,F10⟩:=zc F9
 refine zK Form.row V12 (Form.row_eq _) yE24 ?_
 refine zam yA32 yS32 ?_
 obtain ⟨v13,V13,F11⟩:=zc F10
 refine zv [] (ih_m_spec_FormSame fu (by omega) _ _ _ V13) ?_
 refine zaY ?_
 refine zae (by kernel_rfl) ?_
 refine zd ?_
 refine zm F11 ?_ ?_<;>intro C14 F12
 refine zb (za ?_)
 refine s_as ?_
 refine zf (zd (zh (zj (zg (zw (zj (zg (zn ?_))))))))
 cases F12
 exact zk [] [] Tryz.results75
 refine zi (zW (zd (za ?_)))
 refine s_mv ?_
 refine zJ (zas C9 B10 hn_g7) ?_
 refine s_as ?_
 refine zf ?_
 exact s_rn (fu,(g7+1)) ⟨by first | omega | (dsimp only;omega),F12,by first | omega | (dsimp only;omega)⟩
 refine zy (zq (zo (zr (zd (zb (za ?_))))))
 refine s_as ?_
 refine zf (zd (zh (zn ?_)))
 cases F8
 exact zk [] [] Tryz.results75
theorem m_spec_FormSame_all (fuel:Nat):zfu fuel:=by
 induction fuel using Nat.strongRecOn with
 | _ N ih =>
   cases N with
   | zero=>exact (by intro x1 x2 r h;rw [zaP] at h;cases h)
   | succ fu=>exact m_spec_FormSame_st fu (fun k hk=>(ih k (by omega)))
theorem zft (fuel:Nat):zfu fuel:=(m_spec_FormSame_all fuel)
def m_spec_l4In_AC (fuel:Nat):Prop:=∀ (x1:(List Form)) (x2:Form) (r:Bool),zfF fuel x1 x2=some r→AC Tryz.prog 74 [.t (.sl (x1.map Form.row)),.ag [.t (.sc (.int .i64 x2.kind)),.t (.sc (.str x2.name)),.t (.sc (.int .i64 x2.n)),.t (.sl (x2.scopes.map rI)),.t (.sl (x2.kids.map Form.row))]] noOb (.t (.sc (.bool r))) noOb
theorem zhl (fuel:Nat):m_spec_l4In_AC fuel:=by
 intro x1 x2 r F0
 unfold zfF at F0
 refine AC_i [.t (.sc (.bool r))] Tryz.func74 rfl Tryz.ntmps74 ?_
 intro C hC
 refine zb (za ?_)
 refine zaL ?_
 refine s_as ?_
 refine zf (zd (zb (zb (za ?_))))
 refine s_as ?_
 refine zf (zd (zl ?_))
 refine zaK (β:=Int) [4,5,6,7,8,9,10,11,12,13,14,15,16,17] [] [] (fun a=>[(5,.t (.sc (.int .i64 a.2)))]) (fun a=>[]) (fun a=>a.1≤fuel∧zdI a.1 x1 x2 a.2=some r∧0≤a.2) (fuel,0) ⟨Nat.le_refl _,F0,by simp⟩ ?_
 clear F0
 rintro ⟨fu,g1⟩ ⟨hl2,F1,hn_g1⟩
 dsimp only at hl2 F1 hn_g1 ⊢
 obtain _ | fu:=fu
 · rw [zdI] at F1;cases F1
 rw [zdI] at F1
 refine zb (zb (za ?_))
 refine s_mv ?_
 refine s_mv ?_
 refine zC yU24 ?_
 refine s_lt ?_
 refine zf (zd ?_)
 refine zm F1 ?_ ?_<;>intro C3 F2
 refine zM 0 (fun B4=>?_)
 refine zi (zd (zb (zl (zb ?_))))
 refine zO yMix (by kernel_rfl) ?_
 refine s_mv ?_
 refine s_mv ?_
 obtain ⟨v5,V5,F3⟩:=zc F2
 refine zK Form.row V5 (Form.row_eq _) yE24 ?_
 refine zam yA32 yS32 ?_
 refine zI yA32 yS32 ?_
 obtain ⟨v6,V6,F4⟩:=zc F3
 refine zv [] (zft fu _ _ _ V6) ?_
 refine zae (by kernel_rfl) ?_
 refine zd ?_
 refine zm F4 ?_ ?_<;>intro C7 F5
 refine zb (za ?_)
 refine s_as ?_
 refine zf (zd (zh (zj (zg (zw (zj (zg (zn ?_))))))))
 cases F5
 exact zk [] [] Tryz.results74
 refine zi (zW (zd (za ?_)))
 refine s_mv ?_
 refine zJ (zas C3 B4 hn_g1) ?_
 refine s_as ?_
 refine zf ?_
 exact s_rn (fu,(g1+1)) ⟨by first | omega | (dsimp only;omega),F5,by first | omega | (dsimp only;omega)⟩
 refine zy (zq (zo (zr (zd (zb (za ?_))))))
 refine s_as ?_
 refine zf (zd (zh (zn ?_)))
 cases F2
 exact zk [] [] Tryz.results74
def m_spec_l4Literals_AC (fuel:Nat):Prop:=∀ (x1:(List Form)) (r:Bool),zdO fuel x1=some r→AC Tryz.prog 73 [.t (.sl (x1.map Form.row))] noOb (.t (.sc (.bool r))) noOb
theorem zhI (fuel:Nat):m_spec_l4Literals_AC fuel:=by
 intro x1 r F0
 unfold zdO at F0
 refine AC_i [.t (.sc (.bool r))] Tryz.func73 rfl Tryz.ntmps73 ?_
 intro C hC
 refine zb (za ?_)
 refine s_as ?_
 refine zf (zd (zb (zb (za ?_))))
 refine s_as ?_
 refine zf (zd (zl ?_))
 refine zaK (β:=Int) [2,3,4,5,6,7,8,9,10,11,12,13,14,15,16,17,18,19,20,21,22,23,24,25,26,27,28,29,30,31,32,33,34,35,36,37,38,39,40,41,42,43,44,45] [] [] (fun a=>[(3,.t (.sc (.int .i64 a.2)))]) (fun a=>[]) (fun a=>a.1≤fuel∧zbq a.1 x1 a.2=some r) (fuel,0) ⟨Nat.le_refl _,F0⟩ ?_
 clear F0
 rintro ⟨fu,g1⟩ ⟨hl2,F1⟩
 dsimp only at hl2 F1 ⊢
 obtain _ | fu:=fu
 · rw [zbq] at F1;cases F1
 rw [zbq] at F1
 refine zb (zb (za ?_))
 refine s_mv ?_
 refine s_mv ?_
 refine zC yU24 ?_
 refine s_lt ?_
 refine s_mv ?_
 refine zp _ 8 F1 ?_ ?_<;>intro C3 F2
 refine s_mv ?_
 refine s_lt ?_
 refine zA ?_
 refine zf (zd ?_)
 refine zm F2 ?_ ?_<;>intro C4 F3
 refine zi (zd (zb (zl (zb ?_))))
 refine zO yMix (by kernel_rfl) ?_
 refine s_mv ?_
 refine s_mv ?_
 obtain ⟨v5,V5,F4⟩:=zc F3
 refine zK Form.row V5 (Form.row_eq _) yE24 ?_
 refine zam yA32 yS32 ?_
 obtain ⟨v6,V6,F5⟩:=zc F4
 refine zv [] (m_spec_l3Is_ok fu _ _ V6) ?_
 refine zaY ?_
 refine s_mv ?_
 refine zp _ 20 F5 ?_ ?_<;>intro C7 F6
 iterate 6 refine r_no rfl ?_
 refine zA ?_
 refine s_mv ?_
 iterate 6 refine r_no rfl ?_
 refine zA ?_
 refine s_mv ?_
 iterate 8 refine r_no rfl ?_
 refine zA ?_
 refine zae (by kernel_rfl) ?_
 refine zd (zT rfl (zb (za ?_)))
 refine s_as ?_
 refine zf (zd (zh (zj (zg (zw (zj (zg (zn ?_))))))))
 cases F6
 exact zk [] [] Tryz.results73
 refine s_mv ?_
 refine s_mv ?_
 obtain ⟨v8,V8,F7⟩:=zc F6
 refine zK Form.row V8 (Form.row_eq _) yE24 ?_
 refine s_fa zcm ?_
 refine zu yA9 ?_
 refine zhr ?_
 refine zz ?_
 refine s_mv ?_
 refine zp _ 28 F7 ?_ ?_<;>intro C9 F8
 iterate 6 refine r_no rfl ?_
 refine zA ?_
 refine s_mv ?_
 iterate 8 refine r_no rfl ?_
 refine zA ?_
 refine zae (by kernel_rfl) ?_
 refine zd (zT rfl (zb (za ?_)))
 refine s_as ?_
 refine zf (zd (zh (zj (zg (zw (zj (zg (zn ?_))))))))
 cases F8
 exact zk [] [] Tryz.results73
 refine s_mv ?_
 refine s_mv ?_
 obtain ⟨v10,V10,F9⟩:=zc F8
 refine zK Form.row V10 (Form.row_eq _) yE24 ?_
 refine s_fa zcm ?_
 refine zu yA9 ?_
 refine zhr ?_
 refine zz ?_
 refine s_mv ?_
 refine zp _ 36 F9 ?_ ?_<;>intro C11 F10
 iterate 8 refine r_no rfl ?_
 refine zA ?_
 refine zae (by kernel_rfl) ?_
 refine zd (zT rfl (zb (za ?_)))
 refine s_as ?_
 refine zf (zd (zh (zj (zg (zw (zj (zg (zn ?_))))))))
 cases F10
 exact zk [] [] Tryz.results73
 refine s_mv ?_
 refine s_mv ?_
 obtain ⟨v12,V12,F11⟩:=zc F10
 refine s_sl01 Form.row (fun y=>Form.row_len y) V12 yU24 yE24 ?_
 refine s_mv ?_
 refine s_mv ?_
 obtain ⟨v13,V13,F12⟩:=zc F11
 refine zK Form.row V13 (Form.row_eq _) yE24 ?_
 refine zam yA32 yS32 ?_
 obtain ⟨v14,V14,F13⟩:=zc F12
 refine zv [] (zhl fu _ _ _ V14) ?_
 refine zz ?_
 refine zae (by kernel_rfl) ?_
 refine zd ?_
 refine zm F13 ?_ ?_<;>intro C15 F14
 refine zb (za ?_)
 refine s_as ?_
 refine zf (zd (zh (zj (zg (zw (zj (zg (zn ?_))))))))
 cases F14
 exact zk [] [] Tryz.results73
 refine zi (zW (zd (za ?_)))
 refine s_mv ?_
 refine zJ rfl ?_
 refine s_as ?_
 refine zf ?_
 exact s_rn (fu,(w64 (g1+1))) ⟨by first | omega | (dsimp only;omega),F14⟩
 refine zy (zq (zo (zr (zd (zb (za ?_))))))
 refine s_mv ?_
 refine zC yU24 ?_
 refine s_lt ?_
 refine s_as ?_
 refine zf (zd (zh (zn ?_)))
 cases F3
 exact zk [] [] Tryz.results73
 refine r_no rfl (r_no rfl ?_)
 refine zz ?_
 refine zf (zd (zaX rfl (zy (zq (zo (zr (zd (zb (za ?_)))))))))
 refine s_mv ?_
 refine zC yU24 ?_
 refine s_lt ?_
 refine s_as ?_
 refine zf (zd (zh (zn ?_)))
 cases F2
 exact zk [] [] Tryz.results73
def m_spec_l4Dots_AC (fuel:Nat):Prop:=∀ (x1:Form) (r:Bool),za4 fuel x1=some r→AC Tryz.prog 76 [.ag [.t (.sc (.int .i64 x1.kind)),.t (.sc (.str x1.name)),.t (.sc (.int .i64 x1.n)),.t (.sl (x1.scopes.map rI)),.t (.sl (x1.kids.map Form.row))]] noOb (.t (.sc (.bool r))) noOb
theorem zaN (fuel:Nat):m_spec_l4Dots_AC fuel:=by
 intro x1 r F0
 unfold za4 at F0
 refine AC_i [.t (.sc (.bool r))] Tryz.func76 rfl Tryz.ntmps76 ?_
 intro C hC
 refine zb (za ?_)
 refine zaL ?_
 refine s_as ?_
 refine zf (zd (zb (za ?_)))
 refine s_fa zcY ?_
 refine zu yA3 ?_
 refine s_eq ?_
 refine s_mv ?_
 refine zp _ 6 F0 ?_ ?_<;>intro C1 F1
 refine s_fa zcm ?_
 refine zu yA9 ?_
 refine zhr ?_
 refine zA ?_
 refine s_as ?_
 refine zf (zd (zh (zn ?_)))
 cases F1
 exact zk [] [] Tryz.results76
 iterate 3 refine r_no rfl ?_
 refine zz ?_
 refine s_as ?_
 refine zf (zd (zh (zn ?_)))
 cases F1
 exact zk [] [] Tryz.results76
def zfS (fuel:Nat):Prop:=∀ (x1:Form) (r:Bool),zem fuel x1=some r→AC Tryz.prog 154 [.ag [.t (.sc (.int .i64 x1.kind)),.t (.sc (.str x1.name)),.t (.sc (.int .i64 x1.n)),.t (.sl (x1.scopes.map rI)),.t (.sl (x1.kids.map Form.row))]] noOb (.t (.sc (.bool r))) noOb
theorem m_spec_l4Shape_st (fu:Nat) (ih_m_spec_l4Shape:∀ k,k≤fu→zfS k):zfS (fu+1):=by
 intro x1 r F0
 rw [zem] at F0
 refine AC_i [.t (.sc (.bool r))] Tryz.func154 rfl Tryz.ntmps154 ?_
 intro C hC
 refine zb (za ?_)
 refine zaL ?_
 refine s_as ?_
 refine zf (zd (zb (zb (za ?_))))
 refine zI yA32 yS32 ?_
 obtain ⟨v1,V1,F1⟩:=zc F0
 refine zv [] (zaN fu _ _ V1) ?_
 refine zf (zd ?_)
 refine zm F1 ?_ ?_<;>intro C2 F2
 refine zb (za ?_)
 refine s_as ?_
 refine zf (zd (zh (zg (zn ?_))))
 cases F2
 exact zk [] [] Tryz.results154
 refine zi (zd (zb (za ?_)))
 refine s_as ?_
 refine zf (zd (zb (zb (za ?_))))
 refine s_as ?_
 refine zf (zd (zl ?_))
 refine zaK (β:=Int × Int) [2,3,4,7,8,9,10,11,12,13,14,15,16,17,18,19,20,21,22,23,24,25,26,27,28,29,30,31,32,33,34,35,36,37,38,39] [] [] (fun a=>[(3,.t (.sc (.int .i64 a.2.1))),(4,.t (.sc (.int .i64 a.2.2)))]) (fun a=>[]) (fun a=>a.1≤fu∧zbV a.1 x1 a.2.1 a.2.2=some r∧0≤a.2.2) (fu,0,0) ⟨Nat.le_refl _,F2,by simp⟩ ?_
 clear F2
 rintro ⟨fu,g3,g4⟩ ⟨hl5,F3,hn_g4⟩
 dsimp only at hl5 F3 hn_g4 ⊢
 obtain _ | fu:=fu
 · rw [zbV] at F3;cases F3
 rw [zbV] at F3
 refine zb (zb (za ?_))
 refine s_mv ?_
 refine s_fa zF ?_
 refine zu yA24 ?_
 refine zC yU24 ?_
 refine s_lt ?_
 refine zf (zd ?_)
 refine zm F3 ?_ ?_<;>intro C6 F4
 refine zM 9 (fun B7=>?_)
 refine zi (zd (zb (zl (zb (zb (za ?_))))))
 refine s_fa zF ?_
 refine zu yA24 ?_
 refine s_mv ?_
 obtain ⟨v8,V8,F5⟩:=zc F4
 refine zK Form.row V8 (Form.row_eq _) yE24 ?_
 refine zam yA32 yS32 ?_
 obtain ⟨v9,V9,F6⟩:=zc F5
 refine zv [] (zaN fu _ _ V9) ?_
 refine zf (zd ?_)
 refine zm F6 ?_ ?_<;>intro C10 F7
 refine zb (za ?_)
 refine s_mv ?_
 refine zJ rfl ?_
 refine s_as ?_
 refine zf (zd (zb (zb (za ?_))))
 refine s_mv ?_
 refine s_eq ?_
 refine s_mv ?_
 refine zp _ 24 F7 ?_ ?_<;>intro C11 F8
 iterate 7 refine r_no rfl ?_
 refine zA ?_
 refine zf (zd (zT rfl (zb (za ?_))))
 refine s_as ?_
 refine zf (zd (zh (zg (zg (zj (zg (zw (zj (zg (zn ?_))))))))))
 cases F8
 exact zk [] [] Tryz.results154
 refine s_fa zF ?_
 refine zu yA24 ?_
 refine s_mv ?_
 refine zh9 rfl ?_
 obtain ⟨v12,V12,F9⟩:=zc F8
 refine zK Form.row V12 (Form.row_eq _) yE24 ?_
 refine zam yA32 yS32 ?_
 obtain ⟨v13,V13,F10⟩:=zc F9
 refine zv [] (zaN fu _ _ V13) ?_
 refine zz ?_
 refine zf (zd ?_)
 refine zm F10 ?_ ?_<;>intro C14 F11
 refine zb (za ?_)
 refine s_as ?_
 refine zf (zd (zh (zg (zg (zj (zg (zw (zj (zg (zn ?_))))))))))
 cases F11
 exact zk [] [] Tryz.results154
 refine zi (zd (zy (zq (zr (zd (za ?_))))))
 refine s_mv ?_
 refine zJ (zas C6 B7 hn_g4) ?_
 refine s_as ?_
 refine zf ?_
 exact s_rn (fu,(w64 (g3+1)),(g4+1)) ⟨by first | omega | (dsimp only;omega),F11,by first | omega | (dsimp only;omega)⟩
 refine zi (zd (zb (za ?_)))
 refine s_fa zF ?_
 refine zu yA24 ?_
 refine s_mv ?_
 obtain ⟨v15,V15,F8⟩:=zc F7
 refine zK Form.row V15 (Form.row_eq _) yE24 ?_
 refine zam yA32 yS32 ?_
 obtain ⟨v16,V16,F9⟩:=zc F8
 refine zv [] (ih_m_spec_l4Shape fu (by omega) _ _ V16) ?_
 refine zaY ?_
 refine zf (zd ?_)
 refine zm F9 ?_ ?_<;>intro C17 F10
 refine zb (za ?_)
 refine s_as ?_
 refine zf (zd (zh (zj (zg (zw (zj (zg (zn ?_))))))))
 cases F10
 exact zk [] [] Tryz.results154
 refine zi (zW (zd (za ?_)))
 refine s_mv ?_
 refine zJ (zas C6 B7 hn_g4) ?_
 refine s_as ?_
 refine zf ?_
 exact s_rn (fu,g3,(g4+1)) ⟨by first | omega | (dsimp only;omega),F10,by first | omega | (dsimp only;omega)⟩
 refine zy (zq (zo (zr (zd (zb (za ?_))))))
 refine s_mv ?_
 refine s_le ?_
 refine s_as ?_
 refine zf (zd (zh (zn ?_)))
 cases F4
 exact zk [] [] Tryz.results154
end Go.Abs
