/- A part of the proof: what the functions that the law calls answer, as pure values. -/
import Derived.Test.YtcllpfmjggkpnaaGreatK009716258e2f
import Derived.Test.YtcllpfmjggkpnaaGreatKa9a65b968d17
import Derived.Test.YtcllpfmjggkpnaaGreatKcd1b73107f87
import Derived.Test.YtcllpfmjggkpnaaGreatKf8320a019dd3
import Derived.Test.YtcllpfmjggkpnaaGreatKa8136476e481
import Derived.Test.YtcllpfmjggkpnaaGreatK1df75f79e59f
set_option linter.unusedSimpArgs false
set_option linter.unusedVariables false
set_option maxRecDepth 100000
set_option maxHeartbeats 4000000
namespace Go.Abs
open Go.Proofs
def m_spec_l15Rd_of_AC (fuel:Nat):Prop:=∀ (o1:zba) (x2:(List ByteArray)) (r:(ByteArray × zba)),zbs fuel o1 x2=some r→AC Tryz.prog 87 [.rf 9000 0,.t (.sl (x2.map rS))] (objs [(9000,.box [.t (.sl (o1.b.map rB)),.t (.sc (.int .i64 o1.p))])]) (.t (.sc (.str r.1))) (objs [(9000,.box [.t (.sl (r.2.b.map rB)),.t (.sc (.int .i64 r.2.p))])])
theorem zdI (fuel:Nat):m_spec_l15Rd_of_AC fuel:=by
 intro o1 x2 r F0
 unfold zbs at F0
 refine AC_i [.t (.sc (.str r.1))] Tryz.func87 rfl Tryz.ntmps87 ?_
 intro C hC
 refine zb (za ?_)
 refine s_as ?_
 refine zf (zd (zb (za ?_)))
 iterate 3 refine s_mv ?_
 refine zF yU70 ?_
 obtain ⟨v1,V1,F1⟩:=zc F0
 refine zU [(9000,9000)] [] _ _ (zV fuel _ _ _ V1) ?_
 obtain ⟨v2,V2,F2⟩:=zc F1
 refine zN rS V2 rfl yE70 ?_
 refine zu yA9 ?_
 refine s_as ?_
 refine zf (zd (zh (zn ?_)))
 cases F2
 exact zl _ [] Tryz.results87
def zeL (fuel:Nat):Prop:=∀ (o1:zba) (x2:Form) (r:(Form × zba)),zao fuel o1 x2=some r→AC Tryz.prog 46 [.rf 9000 0,.ag [.t (.sc (.int .i64 x2.kind)),.t (.sc (.str x2.name)),.t (.sc (.int .i64 x2.n)),.t (.sl (x2.scopes.map rI)),.t (.sl (x2.kids.map Form.row))]] (objs [(9000,.box [.t (.sl (o1.b.map rB)),.t (.sc (.int .i64 o1.p))])]) (.ag [.t (.sc (.int .i64 r.1.kind)),.t (.sc (.str r.1.name)),.t (.sc (.int .i64 r.1.n)),.t (.sl (r.1.scopes.map rI)),.t (.sl (r.1.kids.map Form.row))]) (objs [(9000,.box [.t (.sl (r.2.b.map rB)),.t (.sc (.int .i64 r.2.p))])])
theorem m_spec_l1Mutate_st (fu:Nat) (ih_m_spec_l1Mutate:∀ k,k≤fu→zeL k):zeL (fu+1):=by
 intro o1 x2 r F0
 rw [zao] at F0
 refine AC_i [.ag [.t (.sc (.int .i64 r.1.kind)),.t (.sc (.str r.1.name)),.t (.sc (.int .i64 r.1.n)),.t (.sl (r.1.scopes.map rI)),.t (.sl (r.1.kids.map Form.row))]] Tryz.func46 rfl Tryz.ntmps46 ?_
 intro C hC
 refine zb (za ?_)
 refine za9 ?_
 refine zR yZ27 ?_
 refine zf (zd (zb (za ?_)))
 refine zJ yA27 yS27 ?_
 obtain ⟨v1,V1,F1⟩:=zc F0
 refine zU [(9203,2008),(9204,12008)] [] _ _ (zbW fu _ _ V1) ?_
 refine zR yZ27 ?_
 refine zac yS27 ?_
 refine zf (zd (zb (zb (za ?_))))
 refine s_fa zH ?_
 refine zu yA25 ?_
 refine zhs yU25 ?_
 refine s_gt ?_
 refine s_mv ?_
 refine zo _ 13 F1 ?_ ?_<;>intro C2 F2
 refine s_mv ?_
 obtain ⟨v3,V3,F3⟩:=zc F2
 refine zU [(9000,9000)] [] _ _ (zV fu _ _ _ V3) ?_
 refine s_gt ?_
 refine zz ?_
 refine zf (zd ?_)
 refine zm F3 ?_ ?_<;>intro C4 F4
 refine zb (za ?_)
 refine s_mv ?_
 refine s_fa zH ?_
 refine zu yA25 ?_
 refine zhs yU25 ?_
 obtain ⟨v5,V5,F5⟩:=zc F4
 refine zU [(9000,9000)] [] _ _ (zV fu _ _ _ V5) ?_
 refine s_as ?_
 refine zf (zd (zb ?_))
 refine z7 yMix (by kernel_rfl) ?_
 refine s_fa zH ?_
 refine zu yA25 ?_
 refine s_mv ?_
 refine zhr ?_
 refine s_fa zH ?_
 refine zu yA25 ?_
 refine s_mv ?_
 obtain ⟨v6,V6,F6⟩:=zc F5
 refine s_ixA Form.row V6 yE25 ?_
 refine s_lAN Form.row V6 (Form.row_eq _) yA27 yS27 ?_
 obtain ⟨v7,V7,F7⟩:=zc F6
 refine zU [(9000,9000)] [] _ _ (ih_m_spec_l1Mutate fu (by omega) _ _ _ V7) ?_
 obtain ⟨v8,V8,F8⟩:=zc F7
 refine s_ixA Form.row V8 yE25 ?_
 refine s_stA Form.row v7.1 V8 (Form.row_eq _) (Form.row_eq _) yS27 yS27 ?_
 refine zar (by kernel_rfl) ?_
 refine zd (zb (za ?_))
 refine zJ yA27 yS27 ?_
 refine zac yS27 ?_
 refine zf (zd (zh (zg (zn ?_))))
 cases F8
 exact zI _ [2008,12008] (by rw [Tryz.results46];exact (zZ (by conv=>lhs;whnf) (by conv=>lhs;whnf) yA27 yS27 rfl zP))
 refine zi (zd (zb (zb (za ?_))))
 refine s_mv ?_
 obtain ⟨v9,V9,F5⟩:=zc F4
 refine zU [(9000,9000)] [] _ _ (zV fu _ _ _ V9) ?_
 refine zf (zd (zk (zb (za ?_))))
 refine s_eq ?_
 refine s_as ?_
 refine zf (zd ?_)
 refine zm F5 ?_ ?_<;>intro C10 F6
 refine za ?_
 refine s_mv ?_
 refine s_bs rI [0,4,1,3] yP24 yR3 ?_
 obtain ⟨v11,V11,F7⟩:=zc F6
 refine zU [(9000,9000)] [40] _ _ (zbt fu _ _ _ V11) ?_
 refine s_fa zcT ?_
 refine zgO yS3 ?_
 refine zf (zaa (zd (zb (za ?_))))
 refine zJ yA27 yS27 ?_
 refine zac yS27 ?_
 refine zf (zd (zh (zn ?_)))
 cases F7
 exact zI _ [2008,12008] (by rw [Tryz.results46];exact (zZ (by conv=>lhs;whnf) (by conv=>lhs;whnf) yA27 yS27 rfl zP))
 refine zb (za ?_)
 refine s_eq ?_
 refine s_as ?_
 refine zf (zd ?_)
 refine zm F6 ?_ ?_<;>intro C12 F7
 refine za ?_
 refine s_mv ?_
 refine s_bs rS [(⟨#[]⟩:ByteArray),(⟨#[65]⟩:ByteArray),(⟨#[116,111,111,108,111,110,103,97,110,97,109,101,49]⟩:ByteArray),(⟨#[122]⟩:ByteArray),(⟨#[120,32,121]⟩:ByteArray)] yP70 yR9 ?_
 obtain ⟨v13,V13,F8⟩:=zc F7
 refine zU [(9000,9000)] [46] _ _ (zdI fu _ _ _ V13) ?_
 refine s_fa zdp ?_
 refine zgO yS9 ?_
 refine zf (zaa (zd (zb (za ?_))))
 refine zJ yA27 yS27 ?_
 refine zac yS27 ?_
 refine zf (zd (zh (zn ?_)))
 cases F8
 exact zI _ [2008,12008] (by rw [Tryz.results46];exact (zZ (by conv=>lhs;whnf) (by conv=>lhs;whnf) yA27 yS27 rfl zP))
 refine zb (za ?_)
 refine s_eq ?_
 refine s_as ?_
 refine zf (zd ?_)
 refine zm F7 ?_ ?_<;>intro C14 F8
 refine za ?_
 refine s_mv ?_
 refine s_bs rI [1000,(-1),5] yP24 yR3 ?_
 obtain ⟨v15,V15,F9⟩:=zc F8
 refine zU [(9000,9000)] [52] _ _ (zbt fu _ _ _ V15) ?_
 refine s_fa zgd ?_
 refine zgO yS3 ?_
 refine zf (zaa (zd (zb (za ?_))))
 refine zJ yA27 yS27 ?_
 refine zac yS27 ?_
 refine zf (zd (zh (zn ?_)))
 cases F9
 exact zI _ [2008,12008] (by rw [Tryz.results46];exact (zZ (by conv=>lhs;whnf) (by conv=>lhs;whnf) yA27 yS27 rfl zP))
 refine zb (za ?_)
 refine s_eq ?_
 refine s_as ?_
 refine zf (zd ?_)
 refine zm F8 ?_ ?_<;>intro C16 F9
 refine z7 yMix (by kernel_rfl) ?_
 refine s_fa zeR ?_
 refine zu yA24 ?_
 refine zhr ?_
 refine s_bs rI [0,100,1,50] yP24 yR3 ?_
 obtain ⟨v17,V17,F10⟩:=zc F9
 refine zU [(9000,9000)] [60] _ _ (zbt fu _ _ _ V17) ?_
 refine s_bs rI [v17.1] yP24 yR3 ?_
 obtain ⟨hk18,F11⟩:=zab F10
 refine zd4 rI (fun _=>rfl) hk18 yP24 ?_
 refine s_fa zeR ?_
 refine zgO yS24 ?_
 refine zar (by kernel_rfl) ?_
 refine zaa (zd (zb (za ?_)))
 refine zJ yA27 yS27 ?_
 refine zac yS27 ?_
 refine zf (zd (zh (zn ?_)))
 cases F11
 exact zI _ [63,12008] (by rw [Tryz.results46];exact (zZ (by conv=>lhs;whnf) (by conv=>lhs;whnf) yA27 yS27 rfl zP))
 refine zi (zaa (zd (zb (za ?_))))
 refine zJ yA27 yS27 ?_
 refine zac yS27 ?_
 refine zf (zd (zh (zn ?_)))
 cases F9
 exact zI _ [2008,12008] (by rw [Tryz.results46];exact (zZ (by conv=>lhs;whnf) (by conv=>lhs;whnf) yA27 yS27 rfl zP))
 iterate 3 refine r_no rfl ?_
 refine zB ?_
 refine zf (zd (zaS rfl (zi (zd (zb (zb (za ?_)))))))
 refine s_mv ?_
 obtain ⟨v19,V19,F3⟩:=zc F2
 refine zU [(9000,9000)] [] _ _ (zV fu _ _ _ V19) ?_
 refine zf (zd (zk (zb (za ?_))))
 refine s_eq ?_
 refine s_as ?_
 refine zf (zd ?_)
 refine zm F3 ?_ ?_<;>intro C20 F4
 refine za ?_
 refine s_mv ?_
 refine s_bs rI [0,4,1,3] yP24 yR3 ?_
 obtain ⟨v21,V21,F5⟩:=zc F4
 refine zU [(9000,9000)] [40] _ _ (zbt fu _ _ _ V21) ?_
 refine s_fa zcT ?_
 refine zgO yS3 ?_
 refine zf (zaa (zd (zb (za ?_))))
 refine zJ yA27 yS27 ?_
 refine zac yS27 ?_
 refine zf (zd (zh (zn ?_)))
 cases F5
 exact zI _ [2008,12008] (by rw [Tryz.results46];exact (zZ (by conv=>lhs;whnf) (by conv=>lhs;whnf) yA27 yS27 rfl zP))
 refine zb (za ?_)
 refine s_eq ?_
 refine s_as ?_
 refine zf (zd ?_)
 refine zm F4 ?_ ?_<;>intro C22 F5
 refine za ?_
 refine s_mv ?_
 refine s_bs rS [(⟨#[]⟩:ByteArray),(⟨#[65]⟩:ByteArray),(⟨#[116,111,111,108,111,110,103,97,110,97,109,101,49]⟩:ByteArray),(⟨#[122]⟩:ByteArray),(⟨#[120,32,121]⟩:ByteArray)] yP70 yR9 ?_
 obtain ⟨v23,V23,F6⟩:=zc F5
 refine zU [(9000,9000)] [46] _ _ (zdI fu _ _ _ V23) ?_
 refine s_fa zdp ?_
 refine zgO yS9 ?_
 refine zf (zaa (zd (zb (za ?_))))
 refine zJ yA27 yS27 ?_
 refine zac yS27 ?_
 refine zf (zd (zh (zn ?_)))
 cases F6
 exact zI _ [2008,12008] (by rw [Tryz.results46];exact (zZ (by conv=>lhs;whnf) (by conv=>lhs;whnf) yA27 yS27 rfl zP))
 refine zb (za ?_)
 refine s_eq ?_
 refine s_as ?_
 refine zf (zd ?_)
 refine zm F5 ?_ ?_<;>intro C24 F6
 refine za ?_
 refine s_mv ?_
 refine s_bs rI [1000,(-1),5] yP24 yR3 ?_
 obtain ⟨v25,V25,F7⟩:=zc F6
 refine zU [(9000,9000)] [52] _ _ (zbt fu _ _ _ V25) ?_
 refine s_fa zgd ?_
 refine zgO yS3 ?_
 refine zf (zaa (zd (zb (za ?_))))
 refine zJ yA27 yS27 ?_
 refine zac yS27 ?_
 refine zf (zd (zh (zn ?_)))
 cases F7
 exact zI _ [2008,12008] (by rw [Tryz.results46];exact (zZ (by conv=>lhs;whnf) (by conv=>lhs;whnf) yA27 yS27 rfl zP))
 refine zb (za ?_)
 refine s_eq ?_
 refine s_as ?_
 refine zf (zd ?_)
 refine zm F6 ?_ ?_<;>intro C26 F7
 refine z7 yMix (by kernel_rfl) ?_
 refine s_fa zeR ?_
 refine zu yA24 ?_
 refine zhr ?_
 refine s_bs rI [0,100,1,50] yP24 yR3 ?_
 obtain ⟨v27,V27,F8⟩:=zc F7
 refine zU [(9000,9000)] [60] _ _ (zbt fu _ _ _ V27) ?_
 refine s_bs rI [v27.1] yP24 yR3 ?_
 obtain ⟨hk28,F9⟩:=zab F8
 refine zd4 rI (fun _=>rfl) hk28 yP24 ?_
 refine s_fa zeR ?_
 refine zgO yS24 ?_
 refine zar (by kernel_rfl) ?_
 refine zaa (zd (zb (za ?_)))
 refine zJ yA27 yS27 ?_
 refine zac yS27 ?_
 refine zf (zd (zh (zn ?_)))
 cases F9
 exact zI _ [63,12008] (by rw [Tryz.results46];exact (zZ (by conv=>lhs;whnf) (by conv=>lhs;whnf) yA27 yS27 rfl zP))
 refine zi (zaa (zd (zb (za ?_))))
 refine zJ yA27 yS27 ?_
 refine zac yS27 ?_
 refine zf (zd (zh (zn ?_)))
 cases F7
 exact zI _ [2008,12008] (by rw [Tryz.results46];exact (zZ (by conv=>lhs;whnf) (by conv=>lhs;whnf) yA27 yS27 rfl zP))
theorem m_spec_l1Mutate_all (fuel:Nat):zeL fuel:=by
 induction fuel using Nat.strongRecOn with
 | _ N ih =>
   cases N with
   | zero=>exact (by intro o1 x2 r h;rw [zao] at h;cases h)
   | succ fu=>exact m_spec_l1Mutate_st fu (fun k hk=>(ih k (by omega)))
theorem zcU (fuel:Nat):zeL fuel:=(m_spec_l1Mutate_all fuel)
def zfd (fuel:Nat):Prop:=∀ (o1:zba) (x2:Form) (r:(Form × zba)),zbN fuel o1 x2=some r→AC Tryz.prog 47 [.rf 9000 0,.ag [.t (.sc (.int .i64 x2.kind)),.t (.sc (.str x2.name)),.t (.sc (.int .i64 x2.n)),.t (.sl (x2.scopes.map rI)),.t (.sl (x2.kids.map Form.row))]] (objs [(9000,.box [.t (.sl (o1.b.map rB)),.t (.sc (.int .i64 o1.p))])]) (.ag [.t (.sc (.int .i64 r.1.kind)),.t (.sc (.str r.1.name)),.t (.sc (.int .i64 r.1.n)),.t (.sl (r.1.scopes.map rI)),.t (.sl (r.1.kids.map Form.row))]) (objs [(9000,.box [.t (.sl (r.2.b.map rB)),.t (.sc (.int .i64 r.2.p))])])
theorem m_spec_l1Dress_st (fu:Nat) (ih_m_spec_l1Dress:∀ k,k≤fu→zfd k):zfd (fu+1):=by
 intro o1 x2 r F0
 rw [zbN] at F0
 refine AC_i [.ag [.t (.sc (.int .i64 r.1.kind)),.t (.sc (.str r.1.name)),.t (.sc (.int .i64 r.1.n)),.t (.sl (r.1.scopes.map rI)),.t (.sl (r.1.kids.map Form.row))]] Tryz.func47 rfl Tryz.ntmps47 ?_
 intro C hC
 refine zb (za ?_)
 refine za9 ?_
 refine zR yZ27 ?_
 refine zf (zd (zb (za ?_)))
 refine zJ yA27 yS27 ?_
 obtain ⟨v1,V1,F1⟩:=zc F0
 refine zU [(9203,2009),(9204,12009)] [] _ _ (zbW fu _ _ V1) ?_
 refine zR yZ27 ?_
 refine zac yS27 ?_
 refine zf (zd (zb (zb (za ?_))))
 refine s_fa zcT ?_
 refine zu yA3 ?_
 refine s_eq ?_
 refine zf (zd ?_)
 refine zm F1 ?_ ?_<;>intro C2 F2
 refine zb (za ?_)
 refine s_bs rI ([]:List Int) yP24 yR3 ?_
 refine s_bs rI [1] yP24 yR3 ?_
 refine s_bs rI [2] yP24 yR3 ?_
 refine s_bs rI [1,2] yP24 yR3 ?_
 refine s_bs rI [1,3] yP24 yR3 ?_
 refine s_bs rI [1,2,3] yP24 yR3 ?_
 refine s_bs rI [99] yP24 yR3 ?_
 refine s_bs (rL rI) [([]:List Int),[1],[2],[1,2],[1,3],[1,2,3],[99]] yP119 yR24 ?_
 refine s_as ?_
 refine zf (zd (za ?_))
 refine s_bs rI ([]:List Int) yP24 yR3 ?_
 iterate 3 refine s_mv ?_
 refine zhs yU119 ?_
 obtain ⟨v3,V3,F3⟩:=zc F2
 refine zU [(9000,9000)] [] _ _ (zV fu _ _ _ V3) ?_
 obtain ⟨v4,V4,F4⟩:=zc F3
 refine s_ixA (rL rI) V4 yE119 ?_
 refine s_lA1 (rL rI) V4 rfl yA24 ?_
 obtain ⟨hk5,F5⟩:=zab F4
 refine zd4 rI (fun _=>rfl) hk5 yP24 ?_
 refine s_fa zeR ?_
 refine zgO yS24 ?_
 refine zf (zd (zb (zb (za ?_))))
 refine s_as ?_
 refine zf (zd (zk ?_))
 refine zbk (β:=Int × (List Int) × Int × (List Form)) [7,31,32,33,34,35,36,37,38,39,40,41,42,43,44,45,46,47,48] [9000,12009] [] (fun a=>[(7,.t (.sc (.int .i64 a.2.1)))]) (fun a=>[(9000,.box [.t (.sl (a.2.2.1.map rB)),.t (.sc (.int .i64 a.2.2.2.1))]),(12009,.arr (a.2.2.2.2.map Form.row) 27 true)]) (fun a=>a.1≤fu∧zcC a.1 v1 v4 a.2.1 a.2.2.1 a.2.2.2.1 a.2.2.2.2=some r∧0≤a.2.1) (fu,0,v3.2.b,v3.2.p,v1.kids) ⟨Nat.le_refl _,F5,by simp⟩ ?_
 clear F5
 rintro ⟨fu,g6,g7,g8,g9⟩ ⟨hl10,F6,hn_g6⟩
 dsimp only at hl10 F6 hn_g6 ⊢
 obtain _ | fu:=fu
 · rw [zcC] at F6;cases F6
 rw [zcC] at F6
 refine zb (zb (za ?_))
 refine s_mv ?_
 refine s_fa zH ?_
 refine zu yA25 ?_
 refine zhs yU25 ?_
 refine s_lt ?_
 refine zf (zd ?_)
 refine zm F6 ?_ ?_<;>intro C11 F7
 refine zhU 33 12009 (fun B12=>?_)
 refine zi (zd (zb (zk ?_)))
 refine z7 yMix (by kernel_rfl) ?_
 refine s_fa zH ?_
 refine zu yA25 ?_
 refine s_mv ?_
 refine zhr ?_
 refine s_fa zH ?_
 refine zu yA25 ?_
 refine s_mv ?_
 obtain ⟨v13,V13,F8⟩:=zc F7
 refine s_ixA Form.row V13 yE25 ?_
 refine s_lAN Form.row V13 (Form.row_eq _) yA27 yS27 ?_
 obtain ⟨v14,V14,F9⟩:=zc F8
 refine zU [(9000,9000)] [] _ _ (ih_m_spec_l1Dress fu (by omega) _ _ _ V14) ?_
 obtain ⟨v15,V15,F10⟩:=zc F9
 refine s_ixA Form.row V15 yE25 ?_
 refine s_stA Form.row v14.1 V15 (Form.row_eq _) (Form.row_eq _) yS27 yS27 ?_
 refine zar (by kernel_rfl) ?_
 refine zaa (zd (za ?_))
 refine s_mv ?_
 refine zO (zaJ C11 B12 hn_g6) ?_
 refine s_as ?_
 refine zf ?_
 exact s_rn (fu,(g6+1),v14.2.b,v14.2.p,(g9.set g6.toNat v14.1)) ⟨by first | omega | (dsimp only;omega),F10,by first | omega | (dsimp only;omega)⟩
 refine zA (zq (zp (zr (zd (zb (za ?_))))))
 refine zJ yA27 yS27 ?_
 refine zac yS27 ?_
 refine zf (zd (zh (zn ?_)))
 cases F7
 exact zI _ [29,12009] (by rw [Tryz.results47];exact (zZ (by conv=>lhs;whnf) (by conv=>lhs;whnf) yA27 yS27 rfl zP))
 refine zi (zd (zb (zb (za ?_))))
 refine s_as ?_
 refine zf (zd (zk ?_))
 refine zbk (β:=Int × (List Int) × Int × (List Form)) [7,31,32,33,34,35,36,37,38,39,40,41,42,43,44,45,46,47,48] [9000,12009] [] (fun a=>[(7,.t (.sc (.int .i64 a.2.1)))]) (fun a=>[(9000,.box [.t (.sl (a.2.2.1.map rB)),.t (.sc (.int .i64 a.2.2.2.1))]),(12009,.arr (a.2.2.2.2.map Form.row) 27 true)]) (fun a=>a.1≤fu∧zcB a.1 v1 a.2.1 a.2.2.1 a.2.2.2.1 a.2.2.2.2=some r∧0≤a.2.1) (fu,0,o1.b,o1.p,v1.kids) ⟨Nat.le_refl _,F2,by simp⟩ ?_
 clear F2
 rintro ⟨fu,g16,g17,g18,g19⟩ ⟨hl20,F3,hn_g16⟩
 dsimp only at hl20 F3 hn_g16 ⊢
 obtain _ | fu:=fu
 · rw [zcB] at F3;cases F3
 rw [zcB] at F3
 refine zb (zb (za ?_))
 refine s_mv ?_
 refine s_fa zH ?_
 refine zu yA25 ?_
 refine zhs yU25 ?_
 refine s_lt ?_
 refine zf (zd ?_)
 refine zm F3 ?_ ?_<;>intro C21 F4
 refine zhU 33 12009 (fun B22=>?_)
 refine zi (zd (zb (zk ?_)))
 refine z7 yMix (by kernel_rfl) ?_
 refine s_fa zH ?_
 refine zu yA25 ?_
 refine s_mv ?_
 refine zhr ?_
 refine s_fa zH ?_
 refine zu yA25 ?_
 refine s_mv ?_
 obtain ⟨v23,V23,F5⟩:=zc F4
 refine s_ixA Form.row V23 yE25 ?_
 refine s_lAN Form.row V23 (Form.row_eq _) yA27 yS27 ?_
 obtain ⟨v24,V24,F6⟩:=zc F5
 refine zU [(9000,9000)] [] _ _ (ih_m_spec_l1Dress fu (by omega) _ _ _ V24) ?_
 obtain ⟨v25,V25,F7⟩:=zc F6
 refine s_ixA Form.row V25 yE25 ?_
 refine s_stA Form.row v24.1 V25 (Form.row_eq _) (Form.row_eq _) yS27 yS27 ?_
 refine zar (by kernel_rfl) ?_
 refine zaa (zd (za ?_))
 refine s_mv ?_
 refine zO (zaJ C21 B22 hn_g16) ?_
 refine s_as ?_
 refine zf ?_
 exact s_rn (fu,(g16+1),v24.2.b,v24.2.p,(g19.set g16.toNat v24.1)) ⟨by first | omega | (dsimp only;omega),F7,by first | omega | (dsimp only;omega)⟩
 refine zA (zq (zp (zr (zd (zb (za ?_))))))
 refine zJ yA27 yS27 ?_
 refine zac yS27 ?_
 refine zf (zd (zh (zn ?_)))
 cases F4
 exact zI _ [2009,12009] (by rw [Tryz.results47];exact (zZ (by conv=>lhs;whnf) (by conv=>lhs;whnf) yA27 yS27 rfl zP))
theorem m_spec_l1Dress_all (fuel:Nat):zfd fuel:=by
 induction fuel using Nat.strongRecOn with
 | _ N ih =>
   cases N with
   | zero=>exact (by intro o1 x2 r h;rw [zbN] at h;cases h)
   | succ fu=>exact m_spec_l1Dress_st fu (fun k hk=>(ih k (by omega)))
theorem m_spec_l1Dress_ok (fuel:Nat):zfd fuel:=(m_spec_l1Dress_all fuel)
def m_strings_IndexByte_AC (fuel:Nat):Prop:=∀ (x1:ByteArray) (x2:Int) (r:Int),zd7 fuel x1 x2=some r→AC Tryz.prog 106 [.t (.sc (.str x1)),.t (.sc (.int .u8 x2))] noOb (.t (.sc (.int .i64 r))) noOb
theorem zgf (fuel:Nat):m_strings_IndexByte_AC fuel:=by
 intro x1 x2 r h
 obtain rfl:=Option.some.inj h
 exact ac_two (a:=.str x1) (b:=.int .u8 x2) (r:=.int .i64 _) ⟨_,Tryz.func106,by kernel_rfl,by kernel_rfl⟩ (fun w=>Tryz.strings_IndexByte x1 x2 w)
def m_impl_within_AC (fuel:Nat):Prop:=∀ (x1:Int) (x2:Int) (x3:Int) (r:Bool),zdb fuel x1 x2 x3=some r→AC Tryz.prog 50 [.t (.sc (.int .i64 x1)),.t (.sc (.int .i64 x2)),.t (.sc (.int .i64 x3))] noOb (.t (.sc (.bool r))) noOb
theorem zex (fuel:Nat):m_impl_within_AC fuel:=by
 intro x1 x2 x3 r F0
 unfold zdb at F0
 refine AC_i [.t (.sc (.bool r))] Tryz.func50 rfl Tryz.ntmps50 ?_
 intro C hC
 refine zb (za ?_)
 refine s_as ?_
 refine zf (zd (zb (za ?_)))
 refine s_mv ?_
 refine s_mv ?_
 refine s_ge ?_
 refine s_mv ?_
 refine zo _ 10 F0 ?_ ?_<;>intro C1 F1
 refine s_mv ?_
 refine s_mv ?_
 refine s_le ?_
 refine zz ?_
 refine s_as ?_
 refine zf (zd (zh (zn ?_)))
 cases F1
 exact zl [] [] Tryz.results50
 iterate 3 refine r_no rfl ?_
 refine zB ?_
 refine s_as ?_
 refine zf (zd (zh (zn ?_)))
 cases F1
 exact zl [] [] Tryz.results50
def m_impl_NameValid_AC (fuel:Nat):Prop:=∀ (x1:ByteArray) (r:Bool),zeA fuel x1=some r→AC Tryz.prog 48 [.t (.sc (.str x1))] noOb (.t (.sc (.bool r))) noOb
theorem m_impl_NameValid_ok (fuel:Nat):m_impl_NameValid_AC fuel:=by
 intro x1 r F0
 unfold zeA at F0
 refine AC_i [.t (.sc (.bool r))] Tryz.func48 rfl Tryz.ntmps48 ?_
 intro C hC
 refine zb (za ?_)
 refine s_as ?_
 refine zf (zd (zb (zb (za ?_))))
 refine s_mv ?_
 refine zht ?_
 refine s_mv ?_
 refine zo _ 7 F0 ?_ ?_<;>intro C1 F1
 refine r_no rfl (r_no rfl ?_)
 refine zz ?_
 refine zf (zd (zM rfl (zb (za ?_))))
 refine s_as ?_
 refine zf (zd (zh (zg (zn ?_))))
 cases F1
 exact zl [] [] Tryz.results48
 refine s_mv ?_
 refine zht ?_
 refine zB ?_
 refine zf (zd ?_)
 refine zm F1 ?_ ?_<;>intro C2 F2
 refine zb (za ?_)
 refine s_as ?_
 refine zf (zd (zh (zg (zn ?_))))
 cases F2
 exact zl [] [] Tryz.results48
 refine zi (zd (zb (zb (za ?_))))
 refine s_as ?_
 refine zf (zd (zk ?_))
 refine zbk (β:=Int) [2,3,4,11,12,13,14,15,16,17,18,19,20,21,22,23,24,25,26,27,28,29,30,31,32,33,34,35,36,37,38,39,40,41,42,43,44,45,46] [] [] (fun a=>[(3,.t (.sc (.int .i64 a.2)))]) (fun a=>[]) (fun a=>a.1≤fuel∧z8 a.1 x1 a.2=some r) (fuel,0) ⟨Nat.le_refl _,F2⟩ ?_
 clear F2
 rintro ⟨fu,g3⟩ ⟨hl4,F3⟩
 dsimp only at hl4 F3 ⊢
 obtain _ | fu:=fu
 · rw [z8] at F3;cases F3
 rw [z8] at F3
 refine zb (zb (za ?_))
 refine s_mv ?_
 refine s_mv ?_
 refine zeS yU9 ?_
 refine s_lt ?_
 refine zf (zd ?_)
 refine zm F3 ?_ ?_<;>intro C5 F4
 refine zi (zd (zb (zk (zb (za ?_)))))
 refine s_mv ?_
 refine s_mv ?_
 obtain ⟨v6,V6,F5⟩:=zc F4
 refine s_ixS V6 yU9 ?_
 refine s_as ?_
 refine zf (zd (zk (zb (za ?_))))
 refine s_mv ?_
 refine s_ge ?_
 refine s_mv ?_
 refine zo _ 23 F5 ?_ ?_<;>intro C7 F6
 refine s_mv ?_
 refine s_le ?_
 refine zz ?_
 refine s_mv ?_
 refine zo _ 27 F6 ?_ ?_<;>intro C8 F7
 iterate 3 refine r_no rfl ?_
 refine zz ?_
 refine s_as ?_
 refine zf (zd (zM rfl (zi (zaa (zaa (zd (za ?_)))))))
 refine s_mv ?_
 refine zO rfl ?_
 refine s_as ?_
 refine zf ?_
 exact s_rn (fu,(w64 (g3+1))) ⟨by first | omega | (dsimp only;omega),F7⟩
 refine s_mv ?_
 obtain ⟨v9,V9,F8⟩:=zc F7
 refine zx [] (zgf fu _ _ _ V9) ?_
 refine s_ge ?_
 refine zB ?_
 refine s_as ?_
 refine zf (zd ?_)
 refine zm F8 ?_ ?_<;>intro C10 F9
 refine zi (zaa (zaa (zd (za ?_))))
 refine s_mv ?_
 refine zO rfl ?_
 refine s_as ?_
 refine zf ?_
 exact s_rn (fu,(w64 (g3+1))) ⟨by first | omega | (dsimp only;omega),F9⟩
 refine zb (za ?_)
 refine s_mv ?_
 refine s_gt ?_
 refine s_mv ?_
 refine zo _ 35 F9 ?_ ?_<;>intro C11 F10
 refine s_mv ?_
 refine s_ge ?_
 refine s_mv ?_
 refine zo _ 38 F10 ?_ ?_<;>intro C12 F11
 refine s_mv ?_
 refine s_le ?_
 refine zz ?_
 refine s_mv ?_
 refine zo _ 42 F11 ?_ ?_<;>intro C13 F12
 refine r_no rfl (r_no rfl ?_)
 refine zz ?_
 refine zz ?_
 refine s_as ?_
 refine zf (zd (zM rfl (zi (zaa (zaa (zd (za ?_)))))))
 refine s_mv ?_
 refine zO rfl ?_
 refine s_as ?_
 refine zf ?_
 exact s_rn (fu,(w64 (g3+1))) ⟨by first | omega | (dsimp only;omega),F12⟩
 refine s_mv ?_
 refine s_eq ?_
 refine zB ?_
 refine zz ?_
 refine s_as ?_
 refine zf (zd ?_)
 refine zm F12 ?_ ?_<;>intro C14 F13
 refine zi (zaa (zaa (zd (za ?_))))
 refine s_mv ?_
 refine zO rfl ?_
 refine s_as ?_
 refine zf ?_
 exact s_rn (fu,(w64 (g3+1))) ⟨by first | omega | (dsimp only;omega),F13⟩
 refine zb (za ?_)
 refine s_as ?_
 refine zf (zd (zh (zj (zj (zg (zy (zj (zg (zn ?_)))))))))
 cases F13
 exact zl [] [] Tryz.results48
 refine r_no rfl (r_no rfl ?_)
 refine zB ?_
 refine s_mv ?_
 refine s_mv ?_
 refine s_eq ?_
 refine zB ?_
 refine zz ?_
 refine s_as ?_
 refine zf (zd ?_)
 refine zm F11 ?_ ?_<;>intro C15 F12
 refine zi (zaa (zaa (zd (za ?_))))
 refine s_mv ?_
 refine zO rfl ?_
 refine s_as ?_
 refine zf ?_
 exact s_rn (fu,(w64 (g3+1))) ⟨by first | omega | (dsimp only;omega),F12⟩
 refine zb (za ?_)
 refine s_as ?_
 refine zf (zd (zh (zj (zj (zg (zy (zj (zg (zn ?_)))))))))
 cases F12
 exact zl [] [] Tryz.results48
 iterate 10 refine r_no rfl ?_
 refine zB ?_
 refine s_as ?_
 refine zf (zd (zaS rfl (zb (za ?_))))
 refine s_as ?_
 refine zf (zd (zh (zj (zj (zg (zy (zj (zg (zn ?_)))))))))
 cases F10
 exact zl [] [] Tryz.results48
 refine r_no rfl (r_no rfl ?_)
 refine zB ?_
 refine s_mv ?_
 refine s_mv ?_
 obtain ⟨v16,V16,F7⟩:=zc F6
 refine zx [] (zgf fu _ _ _ V16) ?_
 refine s_ge ?_
 refine zB ?_
 refine s_as ?_
 refine zf (zd ?_)
 refine zm F7 ?_ ?_<;>intro C17 F8
 refine zi (zaa (zaa (zd (za ?_))))
 refine s_mv ?_
 refine zO rfl ?_
 refine s_as ?_
 refine zf ?_
 exact s_rn (fu,(w64 (g3+1))) ⟨by first | omega | (dsimp only;omega),F8⟩
 refine zb (za ?_)
 refine s_mv ?_
 refine s_gt ?_
 refine s_mv ?_
 refine zo _ 35 F8 ?_ ?_<;>intro C18 F9
 refine s_mv ?_
 refine s_ge ?_
 refine s_mv ?_
 refine zo _ 38 F9 ?_ ?_<;>intro C19 F10
 refine s_mv ?_
 refine s_le ?_
 refine zz ?_
 refine s_mv ?_
 refine zo _ 42 F10 ?_ ?_<;>intro C20 F11
 refine r_no rfl (r_no rfl ?_)
 refine zz ?_
 refine zz ?_
 refine s_as ?_
 refine zf (zd (zM rfl (zi (zaa (zaa (zd (za ?_)))))))
 refine s_mv ?_
 refine zO rfl ?_
 refine s_as ?_
 refine zf ?_
 exact s_rn (fu,(w64 (g3+1))) ⟨by first | omega | (dsimp only;omega),F11⟩
 refine s_mv ?_
 refine s_eq ?_
 refine zB ?_
 refine zz ?_
 refine s_as ?_
 refine zf (zd ?_)
 refine zm F11 ?_ ?_<;>intro C21 F12
 refine zi (zaa (zaa (zd (za ?_))))
 refine s_mv ?_
 refine zO rfl ?_
 refine s_as ?_
 refine zf ?_
 exact s_rn (fu,(w64 (g3+1))) ⟨by first | omega | (dsimp only;omega),F12⟩
 refine zb (za ?_)
 refine s_as ?_
 refine zf (zd (zh (zj (zj (zg (zy (zj (zg (zn ?_)))))))))
 cases F12
 exact zl [] [] Tryz.results48
 refine r_no rfl (r_no rfl ?_)
 refine zB ?_
 refine s_mv ?_
 refine s_mv ?_
 refine s_eq ?_
 refine zB ?_
 refine zz ?_
 refine s_as ?_
 refine zf (zd ?_)
 refine zm F10 ?_ ?_<;>intro C22 F11
 refine zi (zaa (zaa (zd (za ?_))))
 refine s_mv ?_
 refine zO rfl ?_
 refine s_as ?_
 refine zf ?_
 exact s_rn (fu,(w64 (g3+1))) ⟨by first | omega | (dsimp only;omega),F11⟩
 refine zb (za ?_)
 refine s_as ?_
 refine zf (zd (zh (zj (zj (zg (zy (zj (zg (zn ?_)))))))))
 cases F11
 exact zl [] [] Tryz.results48
 iterate 10 refine r_no rfl ?_
 refine zB ?_
 refine s_as ?_
 refine zf (zd (zaS rfl (zb (za ?_))))
 refine s_as ?_
 refine zf (zd (zh (zj (zj (zg (zy (zj (zg (zn ?_)))))))))
 cases F9
 exact zl [] [] Tryz.results48
 refine zA (zq (zp (zr (zd (zb (za ?_))))))
 refine s_mv ?_
 refine zeS yU9 ?_
 obtain ⟨v23,V23,F5⟩:=zc F4
 refine zx [] (zex fu _ _ _ _ V23) ?_
 refine s_as ?_
 refine zf (zd (zh (zn ?_)))
 cases F5
 exact zl [] [] Tryz.results48
def m_impl_scopesOk_AC (fuel:Nat):Prop:=∀ (x1:(List Int)) (r:Bool),zeY fuel x1=some r→AC Tryz.prog 49 [.t (.sl (x1.map rI))] noOb (.t (.sc (.bool r))) noOb
theorem m_impl_scopesOk_ok (fuel:Nat):m_impl_scopesOk_AC fuel:=by
 intro x1 r F0
 unfold zeY at F0
 refine AC_i [.t (.sc (.bool r))] Tryz.func49 rfl Tryz.ntmps49 ?_
 intro C hC
 refine zb (za ?_)
 refine s_as ?_
 refine zf (zd (zb (zb (za ?_))))
 refine s_mv ?_
 refine zF yU24 ?_
 refine s_mv ?_
 refine zf (zd (zk ?_))
 refine zbk (β:=Int) [2,3,4,7,8,9,10,11,12,13,14,15,16,17,18,19,20,21,22,23,24,25,26,27,28] [] [] (fun a=>[(7,.t (.sc (.int .i64 a.2)))]) (fun a=>[]) (fun a=>a.1≤fuel∧zbo a.1 x1 a.2=some r∧0≤a.2) (fuel,0) ⟨Nat.le_refl _,F0,by simp⟩ ?_
 clear F0
 rintro ⟨fu,g1⟩ ⟨hl2,F1,hn_g1⟩
 dsimp only at hl2 F1 hn_g1 ⊢
 obtain _ | fu:=fu
 · rw [zbo] at F1;cases F1
 rw [zbo] at F1
 refine zb (za ?_)
 refine s_lt ?_
 refine zf (zd (zb ?_))
 refine zm F1 ?_ ?_<;>intro C3 F2
 refine zW 0 (fun B4=>?_)
 refine zi (zd (zb (zk (zb (za ?_)))))
 refine s_mv ?_
 obtain ⟨v5,V5,F3⟩:=zc F2
 refine zN rI V5 rfl yE24 ?_
 refine zu yA3 ?_
 refine s_as ?_
 refine s_as ?_
 refine zf (zd (zb (za ?_)))
 refine s_mv ?_
 obtain ⟨v6,V6,F4⟩:=zc F3
 refine zx [] (zex fu _ _ _ _ V6) ?_
 refine zbq ?_
 refine s_mv ?_
 refine zo _ 15 F4 ?_ ?_<;>intro C7 F5
 iterate 11 refine r_no rfl ?_
 refine zz ?_
 refine zf (zd (zM rfl (zb (za ?_))))
 refine s_as ?_
 refine zf (zd (zh (zj (zg (zy (zj (zg (zn ?_))))))))
 cases F5
 exact zl [] [] Tryz.results49
 refine s_mv ?_
 refine s_gt ?_
 refine s_mv ?_
 refine zo _ 18 F5 ?_ ?_<;>intro C8 F6
 refine s_mv ?_
 refine s_mv ?_
 refine zhq rfl ?_
 obtain ⟨v9,V9,F7⟩:=zc F6
 refine zN rI V9 rfl yE24 ?_
 refine zu yA3 ?_
 refine s_mv ?_
 refine s_ge ?_
 refine zz ?_
 refine zB ?_
 refine zf (zd ?_)
 refine zm F7 ?_ ?_<;>intro C10 F8
 refine zb (za ?_)
 refine s_as ?_
 refine zf (zd (zh (zj (zg (zy (zj (zg (zn ?_))))))))
 cases F8
 exact zl [] [] Tryz.results49
 refine zi (zaa (zd (za ?_)))
 refine zO (zaJ C3 B4 hn_g1) ?_
 refine s_mv ?_
 refine zf ?_
 exact s_rn (fu,(g1+1)) ⟨by first | omega | (dsimp only;omega),F8,by first | omega | (dsimp only;omega)⟩
 iterate 7 refine r_no rfl ?_
 refine zB ?_
 refine zB ?_
 refine zf (zd (zaS rfl (zi (zaa (zd (za ?_))))))
 refine zO (zaJ C3 B4 hn_g1) ?_
 refine s_mv ?_
 refine zf ?_
 exact s_rn (fu,(g1+1)) ⟨by first | omega | (dsimp only;omega),F6,by first | omega | (dsimp only;omega)⟩
 refine zA (zq (zp (zr (zd (zb (za ?_))))))
 refine s_mv ?_
 refine zF yU24 ?_
 refine s_le ?_
 refine s_as ?_
 refine zf (zd (zh (zn ?_)))
 cases F2
 exact zl [] [] Tryz.results49
def m_slices_Equal_int_AC (fuel:Nat):Prop:=∀ (x1:(List Int)) (x2:(List Int)) (r:Bool),zdJ fuel x1 x2=some r→AC Tryz.prog 34 [.t (.sl (x1.map rI)),.t (.sl (x2.map rI))] noOb (.t (.sc (.bool r))) noOb
theorem m_slices_Equal_int_ok (fuel:Nat):m_slices_Equal_int_AC fuel:=by
 intro x1 x2 r F0
 unfold zdJ at F0
 refine AC_i [.t (.sc (.bool r))] Tryz.func34 rfl Tryz.ntmps34 ?_
 intro C hC
 refine zb (za ?_)
 refine s_as ?_
 refine zf (zd (zb (zb (za ?_))))
 refine s_mv ?_
 refine zF yU24 ?_
 refine s_mv ?_
 refine zF yU24 ?_
 refine s_ne ?_
 refine zf (zd ?_)
 refine zm F0 ?_ ?_<;>intro C1 F1
 refine zb (za ?_)
 refine s_as ?_
 refine zf (zd (zh (zg (zn ?_))))
 cases F1
 exact zl [] [] Tryz.results34
 refine zi (zd (zb (zb (za ?_))))
 refine s_mv ?_
 refine zF yU24 ?_
 refine s_mv ?_
 refine zf (zd (zk ?_))
 refine zbk (β:=Int) [4,5,13,14,15,16,17,18,19,20,21,22,23,24,25] [] [] (fun a=>[(13,.t (.sc (.int .i64 a.2)))]) (fun a=>[]) (fun a=>a.1≤fuel∧zby a.1 x1 x2 a.2=some r∧0≤a.2) (fuel,0) ⟨Nat.le_refl _,F1,by simp⟩ ?_
 clear F1
 rintro ⟨fu,g2⟩ ⟨hl3,F2,hn_g2⟩
 dsimp only at hl3 F2 hn_g2 ⊢
 obtain _ | fu:=fu
 · rw [zby] at F2;cases F2
 rw [zby] at F2
 refine zb (za ?_)
 refine s_lt ?_
 refine zf (zd (zb ?_))
 refine zm F2 ?_ ?_<;>intro C4 F3
 refine zW 0 (fun B5=>?_)
 refine zi (zd (zb (zk (zb (za ?_)))))
 refine s_mv ?_
 refine s_as ?_
 refine zf (zd (zb ?_))
 refine z7 yMix (by kernel_rfl) ?_
 refine s_mv ?_
 refine s_mv ?_
 obtain ⟨v6,V6,F4⟩:=zc F3
 refine zN rI V6 rfl yE24 ?_
 refine zu yA3 ?_
 refine s_mv ?_
 refine s_mv ?_
 obtain ⟨v7,V7,F5⟩:=zc F4
 refine zN rI V7 rfl yE24 ?_
 refine zu yA3 ?_
 refine s_ne ?_
 refine zar (by kernel_rfl) ?_
 refine zd ?_
 refine zm F5 ?_ ?_<;>intro C8 F6
 refine zb (za ?_)
 refine s_as ?_
 refine zf (zd (zh (zj (zg (zy (zj (zg (zn ?_))))))))
 cases F6
 exact zl [] [] Tryz.results34
 refine zi (zaa (zd (za ?_)))
 refine zO (zaJ C4 B5 hn_g2) ?_
 refine s_mv ?_
 refine zf ?_
 exact s_rn (fu,(g2+1)) ⟨by first | omega | (dsimp only;omega),F6,by first | omega | (dsimp only;omega)⟩
 refine zA (zq (zp (zr (zd (zb (za ?_))))))
 refine s_as ?_
 refine zf (zd (zh (zn ?_)))
 cases F3
 exact zl [] [] Tryz.results34
def zfF (fuel:Nat):Prop:=∀ (x1:Form) (x2:Int) (o1:Int) (r:(Bool × Int)),zec fuel x1 x2 o1=some r→AC Tryz.prog 58 [.ag [.t (.sc (.int .i64 x1.kind)),.t (.sc (.str x1.name)),.t (.sc (.int .i64 x1.n)),.t (.sl (x1.scopes.map rI)),.t (.sl (x1.kids.map Form.row))],.t (.sc (.int .i64 x2)),.rf 9000 0] (objs [(9000,.box [.t (.sc (.int .i64 o1))])]) (.t (.sc (.bool r.1))) (objs [(9000,.box [.t (.sc (.int .i64 r.2))])])
theorem m_impl_formOk_st (fu:Nat) (ih_m_impl_formOk:∀ k,k≤fu→zfF k):zfF (fu+1):=by
 intro x1 x2 o1 r F0
 rw [zec] at F0
 refine AC_i [.t (.sc (.bool r.1))] Tryz.func58 rfl Tryz.ntmps58 ?_
 intro C hC
 refine zb (za ?_)
 refine za9 ?_
 refine s_as ?_
 refine zf (zd (zb (za ?_)))
 refine s_mv ?_
 refine s_nc ?_
 refine zu yA3 ?_
 refine zhq rfl ?_
 refine s_nc ?_
 refine zac yS3 ?_
 refine zf (zd (zb (zb (za ?_))))
 refine s_mv ?_
 refine s_nc ?_
 refine zu yA3 ?_
 refine s_lt ?_
 refine s_mv ?_
 refine zo _ 18 F0 ?_ ?_<;>intro C1 F1
 refine r_no rfl (r_no rfl ?_)
 refine zz ?_
 refine zf (zd (zM rfl (zb (za ?_))))
 refine s_as ?_
 refine zf (zd (zh (zg (zn ?_))))
 cases F1
 exact zl _ [] Tryz.results58
 refine s_mv ?_
 refine s_gt ?_
 refine zB ?_
 refine zf (zd ?_)
 refine zm F1 ?_ ?_<;>intro C2 F2
 refine zb (za ?_)
 refine s_as ?_
 refine zf (zd (zh (zg (zn ?_))))
 cases F2
 exact zl _ [] Tryz.results58
 refine zi (zd (zb (zb (za ?_))))
 refine s_fa zcT ?_
 refine zu yA3 ?_
 refine zf (zd (zk (zb (za ?_))))
 refine s_eq ?_
 refine s_as ?_
 refine zf (zd ?_)
 refine zm F2 ?_ ?_<;>intro C3 F3
 refine zb (za ?_)
 refine s_fa zdp ?_
 refine zu yA9 ?_
 obtain ⟨v4,V4,F4⟩:=zc F3
 refine zx [] (m_impl_NameValid_ok fu _ _ V4) ?_
 refine s_mv ?_
 refine zo _ 29 F4 ?_ ?_<;>intro C5 F5
 refine s_fa zgd ?_
 refine zu yA3 ?_
 refine s_eq ?_
 refine zz ?_
 refine s_mv ?_
 refine zo _ 34 F5 ?_ ?_<;>intro C6 F6
 refine s_fa zeR ?_
 refine zu yA24 ?_
 obtain ⟨v7,V7,F7⟩:=zc F6
 refine zx [] (m_impl_scopesOk_ok fu _ _ V7) ?_
 refine zz ?_
 refine s_mv ?_
 refine zo _ 39 F7 ?_ ?_<;>intro C8 F8
 refine s_fa zH ?_
 refine zu yA25 ?_
 refine zF yU25 ?_
 refine s_eq ?_
 refine zz ?_
 refine s_as ?_
 refine zf (zd (zh (zj (zg (zn ?_)))))
 cases F8
 exact zl _ [] Tryz.results58
 iterate 4 refine r_no rfl ?_
 refine zB ?_
 refine s_as ?_
 refine zf (zd (zh (zj (zg (zn ?_)))))
 cases F8
 exact zl _ [] Tryz.results58
 iterate 3 refine r_no rfl ?_
 refine zB ?_
 refine s_mv ?_
 iterate 4 refine r_no rfl ?_
 refine zB ?_
 refine s_as ?_
 refine zf (zd (zh (zj (zg (zn ?_)))))
 cases F6
 exact zl _ [] Tryz.results58
 iterate 3 refine r_no rfl ?_
 refine zB ?_
 refine s_mv ?_
 iterate 3 refine r_no rfl ?_
 refine zB ?_
 refine s_mv ?_
 iterate 4 refine r_no rfl ?_
 refine zB ?_
 refine s_as ?_
 refine zf (zd (zh (zj (zg (zn ?_)))))
 cases F5
 exact zl _ [] Tryz.results58
 refine zb (za ?_)
 refine s_eq ?_
 refine s_as ?_
 refine zf (zd ?_)
 refine zm F3 ?_ ?_<;>intro C9 F4
 refine zb (za ?_)
 refine s_fa zdp ?_
 refine zu yA9 ?_
 refine zht ?_
 refine s_mv ?_
 refine zo _ 50 F4 ?_ ?_<;>intro C10 F5
 refine s_fa zgd ?_
 refine zu yA3 ?_
 obtain ⟨v11,V11,F6⟩:=zc F5
 refine zx [] (zex fu _ _ _ _ V11) ?_
 refine zz ?_
 refine s_mv ?_
 refine zo _ 55 F6 ?_ ?_<;>intro C12 F7
 refine s_fa zeR ?_
 refine zu yA24 ?_
 refine zF yU24 ?_
 refine s_eq ?_
 refine zz ?_
 refine s_mv ?_
 refine zo _ 61 F7 ?_ ?_<;>intro C13 F8
 refine s_fa zH ?_
 refine zu yA25 ?_
 refine zF yU25 ?_
 refine s_eq ?_
 refine zz ?_
 refine s_as ?_
 refine zf (zd (zh (zj (zg (zn ?_)))))
 cases F8
 exact zl _ [] Tryz.results58
 iterate 4 refine r_no rfl ?_
 refine zB ?_
 refine s_as ?_
 refine zf (zd (zh (zj (zg (zn ?_)))))
 cases F8
 exact zl _ [] Tryz.results58
 iterate 4 refine r_no rfl ?_
 refine zB ?_
 refine s_mv ?_
 iterate 4 refine r_no rfl ?_
 refine zB ?_
 refine s_as ?_
 refine zf (zd (zh (zj (zg (zn ?_)))))
 cases F7
 exact zl _ [] Tryz.results58
 iterate 3 refine r_no rfl ?_
 refine zB ?_
 refine s_mv ?_
 iterate 4 refine r_no rfl ?_
 refine zB ?_
 refine s_mv ?_
 iterate 4 refine r_no rfl ?_
 refine zB ?_
 refine s_as ?_
 refine zf (zd (zh (zj (zg (zn ?_)))))
 cases F5
 exact zl _ [] Tryz.results58
 refine zb (za ?_)
 refine s_eq ?_
 refine s_as ?_
 refine zf (zd ?_)
 refine zm F4 ?_ ?_<;>intro C14 F5
 refine zb (zb (za ?_))
 refine s_fa zdp ?_
 refine zu yA9 ?_
 refine s_neS ?_
 refine s_mv ?_
 refine zo _ 72 F5 ?_ ?_<;>intro C15 F6
 iterate 3 refine r_no rfl ?_
 refine zz ?_
 refine s_mv ?_
 iterate 4 refine r_no rfl ?_
 refine zz ?_
 refine zf (zd (zM rfl (zb (za ?_))))
 refine s_as ?_
 refine zf (zd (zh (zg (zj (zg (zn ?_))))))
 cases F6
 exact zl _ [] Tryz.results58
 refine s_fa zgd ?_
 refine zu yA3 ?_
 refine s_ne ?_
 refine zB ?_
 refine s_mv ?_
 refine zo _ 77 F6 ?_ ?_<;>intro C16 F7
 iterate 4 refine r_no rfl ?_
 refine zz ?_
 refine zf (zd (zM rfl (zb (za ?_))))
 refine s_as ?_
 refine zf (zd (zh (zg (zj (zg (zn ?_))))))
 cases F7
 exact zl _ [] Tryz.results58
 refine s_fa zeR ?_
 refine zu yA24 ?_
 refine zF yU24 ?_
 refine s_gt ?_
 refine zB ?_
 refine zf (zd ?_)
 refine zm F7 ?_ ?_<;>intro C17 F8
 refine zW 79 (fun B18=>?_)
 refine zb (za ?_)
 refine s_as ?_
 refine zf (zd (zh (zg (zj (zg (zn ?_))))))
 cases F8
 exact zl _ [] Tryz.results58
 refine zi (zd (zb (zb (za ?_))))
 refine s_fa zH ?_
 refine zu yA25 ?_
 refine zF yU25 ?_
 refine s_mv ?_
 refine zf (zd (zk ?_))
 refine zbk (β:=Int × Int) [6,8,86,87,88,89,90,91,92,93,94,95,96] [9000] [8] (fun a=>[(86,.t (.sc (.int .i64 a.2.1)))]) (fun a=>[(9000,.box [.t (.sc (.int .i64 a.2.2))])]) (fun a=>a.1≤fu∧zcx a.1 x1 x2 a.2.1 a.2.2=some r∧0≤a.2.1) (fu,0,(w64 (o1-1))) ⟨Nat.le_refl _,F8,by simp⟩ ?_
 clear F8
 rintro ⟨fu,g19,g20⟩ ⟨hl21,F9,hn_g19⟩
 dsimp only at hl21 F9 hn_g19 ⊢
 obtain _ | fu:=fu
 · rw [zcx] at F9;cases F9
 rw [zcx] at F9
 refine zb (za ?_)
 refine s_lt ?_
 refine zf (zd (zb ?_))
 refine zm F9 ?_ ?_<;>intro C22 F10
 refine zW 84 (fun B23=>?_)
 refine zi (zd (zb (zk (zb (za ?_)))))
 obtain ⟨v24,V24,F11⟩:=zc F10
 refine zN Form.row V24 (Form.row_eq _) yE25 ?_
 refine zas yA27 yS27 ?_
 refine zR yZ27 ?_
 refine zac yS27 ?_
 refine zf (zd (zb (za ?_)))
 refine zJ yA27 yS27 ?_
 refine s_mv ?_
 refine zO rfl ?_
 refine s_mv ?_
 obtain ⟨v25,V25,F12⟩:=zc F11
 refine zU [(9000,9000)] [] _ _ (ih_m_impl_formOk fu (by omega) _ _ _ _ V25) ?_
 refine zbq ?_
 refine zf (zd ?_)
 refine zm F12 ?_ ?_<;>intro C26 F13
 refine zb (za ?_)
 refine s_as ?_
 refine zf (zd (zh (zj (zg (zy (zj (zg (zj (zg (zn ?_))))))))))
 cases F13
 exact zl _ [] Tryz.results58
 refine zi (zaa (zd (za ?_)))
 refine zO (zaJ C22 B23 hn_g19) ?_
 refine s_mv ?_
 refine zf ?_
 exact s_rn (fu,(g19+1),v25.2) ⟨by first | omega | (dsimp only;omega),F13,by first | omega | (dsimp only;omega)⟩
 refine zA (zq (zp (zr (zd (zb (za ?_))))))
 refine s_as ?_
 refine zf (zd (zh (zj (zg (zn ?_)))))
 cases F10
 exact zl _ [] Tryz.results58
 refine zi (zaa (zd (zb (za ?_))))
 refine s_as ?_
 refine zf (zd (zh (zn ?_)))
 cases F5
 exact zl _ [] Tryz.results58
end Go.Abs
