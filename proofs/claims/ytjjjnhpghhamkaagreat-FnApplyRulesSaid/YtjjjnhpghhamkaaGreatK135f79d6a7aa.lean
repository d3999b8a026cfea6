/- A part of the proof: what the functions that the law calls answer, as pure values. -/
import Derived.Test.YtjjjnhpghhamkaaGreatK8d582f2e31e6
import Derived.Test.YtjjjnhpghhamkaaGreatK4ee70f842008
import Derived.Test.YtjjjnhpghhamkaaGreatK4f5429558fbb
import Derived.Test.YtjjjnhpghhamkaaGreatK06634278733b
import Derived.Test.YtjjjnhpghhamkaaGreatK8faf616840a9
import Derived.Test.YtjjjnhpghhamkaaGreatK588f45fe6ada
import Derived.Test.YtjjjnhpghhamkaaGreatK48decf646e3b
set_option linter.unusedSimpArgs false
set_option linter.unusedVariables false
set_option maxRecDepth 100000
set_option maxHeartbeats 4000000
namespace Go.Abs
open Go.Proofs
def zfv (fuel:Nat):Prop:=∀ (o1:zb9) (x2:Form) (r:(Form × zb9)),zaA fuel o1 x2=some r→AC Tryz.prog 120 [.rf 9000 0,.ag [.t (.sc (.int .i64 x2.kind)),.t (.sc (.str x2.name)),.t (.sc (.int .i64 x2.n)),.t (.sl (x2.scopes.map rI)),.t (.sl (x2.kids.map Form.row))]] (objs [(9000,.box [.t (.sl (o1.b.map rB)),.t (.sc (.int .i64 o1.p))])]) (.ag [.t (.sc (.int .i64 r.1.kind)),.t (.sc (.str r.1.name)),.t (.sc (.int .i64 r.1.n)),.t (.sl (r.1.scopes.map rI)),.t (.sl (r.1.kids.map Form.row))]) (objs [(9000,.box [.t (.sl (r.2.b.map rB)),.t (.sc (.int .i64 r.2.p))])])
theorem m_spec_l1Mutate_st (fu:Nat) (ih_m_spec_l1Mutate:∀ k,k≤fu→zfv k):zfv (fu+1):=by
 intro o1 x2 r F0
 rw [zaA] at F0
 refine AC_i [.ag [.t (.sc (.int .i64 r.1.kind)),.t (.sc (.str r.1.name)),.t (.sc (.int .i64 r.1.n)),.t (.sl (r.1.scopes.map rI)),.t (.sl (r.1.kids.map Form.row))]] Tryz.func120 rfl Tryz.ntmps120 ?_
 intro C hC
 refine zb (za ?_)
 refine zaN ?_
 refine zU yZ27 ?_
 refine zf (zd (zb (za ?_)))
 refine zG yA27 yS27 ?_
 obtain ⟨v1,V1,F1⟩:=zc F0
 refine z4 [(9203,2008),(9204,12008)] [] _ _ (zd6 fu _ _ V1) ?_
 refine zU yZ27 ?_
 refine zab yS27 ?_
 refine zf (zd (zb (zb (za ?_))))
 refine s_fa zF ?_
 refine zu yA25 ?_
 refine zhc yU25 ?_
 refine s_gt ?_
 refine s_mv ?_
 refine zo _ 13 F1 ?_ ?_<;>intro C2 F2
 refine s_mv ?_
 obtain ⟨v3,V3,F3⟩:=zc F2
 refine z4 [(9000,9000)] [] _ _ (zaB fu _ _ _ V3) ?_
 refine s_gt ?_
 refine zA ?_
 refine zf (zd ?_)
 refine zm F3 ?_ ?_<;>intro C4 F4
 refine zb (za ?_)
 refine s_mv ?_
 refine s_fa zF ?_
 refine zu yA25 ?_
 refine zhc yU25 ?_
 obtain ⟨v5,V5,F5⟩:=zc F4
 refine z4 [(9000,9000)] [] _ _ (zaB fu _ _ _ V5) ?_
 refine s_as ?_
 refine zf (zd (zb ?_))
 refine zP yMix (by kernel_rfl) ?_
 refine s_fa zF ?_
 refine zu yA25 ?_
 refine s_mv ?_
 refine s_mv ?_
 refine s_fa zF ?_
 refine zu yA25 ?_
 refine s_mv ?_
 obtain ⟨v6,V6,F6⟩:=zc F5
 refine ziy Form.row V6 yE25 ?_
 refine s_lAN Form.row V6 (Form.row_eq _) yA27 yS27 ?_
 obtain ⟨v7,V7,F7⟩:=zc F6
 refine z4 [(9000,9000)] [] _ _ (ih_m_spec_l1Mutate fu (by omega) _ _ _ V7) ?_
 obtain ⟨v8,V8,F8⟩:=zc F7
 refine ziy Form.row V8 yE25 ?_
 refine s_stA Form.row v7.1 V8 (Form.row_eq _) (Form.row_eq _) yS27 yS27 ?_
 refine zah (by kernel_rfl) ?_
 refine zd (zb (za ?_))
 refine zG yA27 yS27 ?_
 refine zab yS27 ?_
 refine zf (zd (zh (zg (zn ?_))))
 cases F8
 exact zZ _ [2008,12008] (by rw [Tryz.results120];exact (zas (by conv=>lhs;whnf) (by conv=>lhs;whnf) yA27 yS27 rfl zae))
 refine zi (zd (zb (zb (za ?_))))
 refine s_mv ?_
 obtain ⟨v9,V9,F5⟩:=zc F4
 refine z4 [(9000,9000)] [] _ _ (zaB fu _ _ _ V9) ?_
 refine zf (zd (zl (zb (za ?_))))
 refine s_eq ?_
 refine s_as ?_
 refine zf (zd ?_)
 refine zm F5 ?_ ?_<;>intro C10 F6
 refine za ?_
 refine s_mv ?_
 refine s_bs rI [0,4,1,3] yP24 yR3 ?_
 obtain ⟨v11,V11,F7⟩:=zc F6
 refine z4 [(9000,9000)] [40] _ _ (zcU fu _ _ _ V11) ?_
 refine s_fa zc1 ?_
 refine zii yS3 ?_
 refine zf (zW (zd (zb (za ?_))))
 refine zG yA27 yS27 ?_
 refine zab yS27 ?_
 refine zf (zd (zh (zn ?_)))
 cases F7
 exact zZ _ [2008,12008] (by rw [Tryz.results120];exact (zas (by conv=>lhs;whnf) (by conv=>lhs;whnf) yA27 yS27 rfl zae))
 refine zb (za ?_)
 refine s_eq ?_
 refine s_as ?_
 refine zf (zd ?_)
 refine zm F6 ?_ ?_<;>intro C12 F7
 refine za ?_
 refine s_mv ?_
 refine s_bs rS [(⟨#[]⟩:ByteArray),(⟨#[65]⟩:ByteArray),(⟨#[116,111,111,108,111,110,103,97,110,97,109,101,49]⟩:ByteArray),(⟨#[122]⟩:ByteArray),(⟨#[120,32,121]⟩:ByteArray)] yP36 yR9 ?_
 obtain ⟨v13,V13,F8⟩:=zc F7
 refine z4 [(9000,9000)] [46] _ _ (zip fu _ _ _ V13) ?_
 refine s_fa zcp ?_
 refine zii yS9 ?_
 refine zf (zW (zd (zb (za ?_))))
 refine zG yA27 yS27 ?_
 refine zab yS27 ?_
 refine zf (zd (zh (zn ?_)))
 cases F8
 exact zZ _ [2008,12008] (by rw [Tryz.results120];exact (zas (by conv=>lhs;whnf) (by conv=>lhs;whnf) yA27 yS27 rfl zae))
 refine zb (za ?_)
 refine s_eq ?_
 refine s_as ?_
 refine zf (zd ?_)
 refine zm F7 ?_ ?_<;>intro C14 F8
 refine za ?_
 refine s_mv ?_
 refine s_bs rI [1000,(-1),5] yP24 yR3 ?_
 obtain ⟨v15,V15,F9⟩:=zc F8
 refine z4 [(9000,9000)] [52] _ _ (zcU fu _ _ _ V15) ?_
 refine s_fa zhu ?_
 refine zii yS3 ?_
 refine zf (zW (zd (zb (za ?_))))
 refine zG yA27 yS27 ?_
 refine zab yS27 ?_
 refine zf (zd (zh (zn ?_)))
 cases F9
 exact zZ _ [2008,12008] (by rw [Tryz.results120];exact (zas (by conv=>lhs;whnf) (by conv=>lhs;whnf) yA27 yS27 rfl zae))
 refine zb (za ?_)
 refine s_eq ?_
 refine s_as ?_
 refine zf (zd ?_)
 refine zm F8 ?_ ?_<;>intro C16 F9
 refine zP yMix (by kernel_rfl) ?_
 refine s_fa zf9 ?_
 refine zu yA24 ?_
 refine s_mv ?_
 refine s_bs rI [0,100,1,50] yP24 yR3 ?_
 obtain ⟨v17,V17,F10⟩:=zc F9
 refine z4 [(9000,9000)] [60] _ _ (zcU fu _ _ _ V17) ?_
 refine s_bs rI [v17.1] yP24 yR3 ?_
 obtain ⟨hk18,F11⟩:=zac F10
 refine zel rI (fun _=>rfl) hk18 yP24 ?_
 refine s_fa zf9 ?_
 refine zii yS24 ?_
 refine zah (by kernel_rfl) ?_
 refine zW (zd (zb (za ?_)))
 refine zG yA27 yS27 ?_
 refine zab yS27 ?_
 refine zf (zd (zh (zn ?_)))
 cases F11
 exact zZ _ [63,12008] (by rw [Tryz.results120];exact (zas (by conv=>lhs;whnf) (by conv=>lhs;whnf) yA27 yS27 rfl zae))
 refine zi (zW (zd (zb (za ?_))))
 refine zG yA27 yS27 ?_
 refine zab yS27 ?_
 refine zf (zd (zh (zn ?_)))
 cases F9
 exact zZ _ [2008,12008] (by rw [Tryz.results120];exact (zas (by conv=>lhs;whnf) (by conv=>lhs;whnf) yA27 yS27 rfl zae))
 iterate 3 refine r_no rfl ?_
 refine zy ?_
 refine zf (zd (zaZ rfl (zi (zd (zb (zb (za ?_)))))))
 refine s_mv ?_
 obtain ⟨v19,V19,F3⟩:=zc F2
 refine z4 [(9000,9000)] [] _ _ (zaB fu _ _ _ V19) ?_
 refine zf (zd (zl (zb (za ?_))))
 refine s_eq ?_
 refine s_as ?_
 refine zf (zd ?_)
 refine zm F3 ?_ ?_<;>intro C20 F4
 refine za ?_
 refine s_mv ?_
 refine s_bs rI [0,4,1,3] yP24 yR3 ?_
 obtain ⟨v21,V21,F5⟩:=zc F4
 refine z4 [(9000,9000)] [40] _ _ (zcU fu _ _ _ V21) ?_
 refine s_fa zc1 ?_
 refine zii yS3 ?_
 refine zf (zW (zd (zb (za ?_))))
 refine zG yA27 yS27 ?_
 refine zab yS27 ?_
 refine zf (zd (zh (zn ?_)))
 cases F5
 exact zZ _ [2008,12008] (by rw [Tryz.results120];exact (zas (by conv=>lhs;whnf) (by conv=>lhs;whnf) yA27 yS27 rfl zae))
 refine zb (za ?_)
 refine s_eq ?_
 refine s_as ?_
 refine zf (zd ?_)
 refine zm F4 ?_ ?_<;>intro C22 F5
 refine za ?_
 refine s_mv ?_
 refine s_bs rS [(⟨#[]⟩:ByteArray),(⟨#[65]⟩:ByteArray),(⟨#[116,111,111,108,111,110,103,97,110,97,109,101,49]⟩:ByteArray),(⟨#[122]⟩:ByteArray),(⟨#[120,32,121]⟩:ByteArray)] yP36 yR9 ?_
 obtain ⟨v23,V23,F6⟩:=zc F5
 refine z4 [(9000,9000)] [46] _ _ (zip fu _ _ _ V23) ?_
 refine s_fa zcp ?_
 refine zii yS9 ?_
 refine zf (zW (zd (zb (za ?_))))
 refine zG yA27 yS27 ?_
 refine zab yS27 ?_
 refine zf (zd (zh (zn ?_)))
 cases F6
 exact zZ _ [2008,12008] (by rw [Tryz.results120];exact (zas (by conv=>lhs;whnf) (by conv=>lhs;whnf) yA27 yS27 rfl zae))
 refine zb (za ?_)
 refine s_eq ?_
 refine s_as ?_
 refine zf (zd ?_)
 refine zm F5 ?_ ?_<;>intro C24 F6
 refine za ?_
 refine s_mv ?_
 refine s_bs rI [1000,(-1),5] yP24 yR3 ?_
 obtain ⟨v25,V25,F7⟩:=zc F6
 refine z4 [(9000,9000)] [52] _ _ (zcU fu _ _ _ V25) ?_
 refine s_fa zhu ?_
 refine zii yS3 ?_
 refine zf (zW (zd (zb (za ?_))))
 refine zG yA27 yS27 ?_
 refine zab yS27 ?_
 refine zf (zd (zh (zn ?_)))
 cases F7
 exact zZ _ [2008,12008] (by rw [Tryz.results120];exact (zas (by conv=>lhs;whnf) (by conv=>lhs;whnf) yA27 yS27 rfl zae))
 refine zb (za ?_)
 refine s_eq ?_
 refine s_as ?_
 refine zf (zd ?_)
 refine zm F6 ?_ ?_<;>intro C26 F7
 refine zP yMix (by kernel_rfl) ?_
 refine s_fa zf9 ?_
 refine zu yA24 ?_
 refine s_mv ?_
 refine s_bs rI [0,100,1,50] yP24 yR3 ?_
 obtain ⟨v27,V27,F8⟩:=zc F7
 refine z4 [(9000,9000)] [60] _ _ (zcU fu _ _ _ V27) ?_
 refine s_bs rI [v27.1] yP24 yR3 ?_
 obtain ⟨hk28,F9⟩:=zac F8
 refine zel rI (fun _=>rfl) hk28 yP24 ?_
 refine s_fa zf9 ?_
 refine zii yS24 ?_
 refine zah (by kernel_rfl) ?_
 refine zW (zd (zb (za ?_)))
 refine zG yA27 yS27 ?_
 refine zab yS27 ?_
 refine zf (zd (zh (zn ?_)))
 cases F9
 exact zZ _ [63,12008] (by rw [Tryz.results120];exact (zas (by conv=>lhs;whnf) (by conv=>lhs;whnf) yA27 yS27 rfl zae))
 refine zi (zW (zd (zb (za ?_))))
 refine zG yA27 yS27 ?_
 refine zab yS27 ?_
 refine zf (zd (zh (zn ?_)))
 cases F7
 exact zZ _ [2008,12008] (by rw [Tryz.results120];exact (zas (by conv=>lhs;whnf) (by conv=>lhs;whnf) yA27 yS27 rfl zae))
theorem m_spec_l1Mutate_all (fuel:Nat):zfv fuel:=by
 induction fuel using Nat.strongRecOn with
 | _ N ih =>
   cases N with
   | zero=>exact (by intro o1 x2 r h;rw [zaA] at h;cases h)
   | succ fu=>exact m_spec_l1Mutate_st fu (fun k hk=>(ih k (by omega)))
theorem zfu (fuel:Nat):zfv fuel:=(m_spec_l1Mutate_all fuel)
def zf2 (fuel:Nat):Prop:=∀ (o1:zb9) (x2:Form) (r:(Form × zb9)),zb5 fuel o1 x2=some r→AC Tryz.prog 121 [.rf 9000 0,.ag [.t (.sc (.int .i64 x2.kind)),.t (.sc (.str x2.name)),.t (.sc (.int .i64 x2.n)),.t (.sl (x2.scopes.map rI)),.t (.sl (x2.kids.map Form.row))]] (objs [(9000,.box [.t (.sl (o1.b.map rB)),.t (.sc (.int .i64 o1.p))])]) (.ag [.t (.sc (.int .i64 r.1.kind)),.t (.sc (.str r.1.name)),.t (.sc (.int .i64 r.1.n)),.t (.sl (r.1.scopes.map rI)),.t (.sl (r.1.kids.map Form.row))]) (objs [(9000,.box [.t (.sl (r.2.b.map rB)),.t (.sc (.int .i64 r.2.p))])])
theorem m_spec_l1Dress_st (fu:Nat) (ih_m_spec_l1Dress:∀ k,k≤fu→zf2 k):zf2 (fu+1):=by
 intro o1 x2 r F0
 rw [zb5] at F0
 refine AC_i [.ag [.t (.sc (.int .i64 r.1.kind)),.t (.sc (.str r.1.name)),.t (.sc (.int .i64 r.1.n)),.t (.sl (r.1.scopes.map rI)),.t (.sl (r.1.kids.map Form.row))]] Tryz.func121 rfl Tryz.ntmps121 ?_
 intro C hC
 refine zb (za ?_)
 refine zaN ?_
 refine zU yZ27 ?_
 refine zf (zd (zb (za ?_)))
 refine zG yA27 yS27 ?_
 obtain ⟨v1,V1,F1⟩:=zc F0
 refine z4 [(9203,2009),(9204,12009)] [] _ _ (zd6 fu _ _ V1) ?_
 refine zU yZ27 ?_
 refine zab yS27 ?_
 refine zf (zd (zb (zb (za ?_))))
 refine s_fa zc1 ?_
 refine zu yA3 ?_
 refine s_eq ?_
 refine zf (zd ?_)
 refine zm F1 ?_ ?_<;>intro C2 F2
 refine zb (za ?_)
 refine s_bs rI ([]:List Int) yP24 yR3 ?_
 refine s_bs rI [1] yP24 yR3 ?_
 refine s_bs rI [2] yP24 yR3 ?_
 refine s_bs rI [1,2] yP24 yR3 ?_
 refine s_bs rI [1,3] yP24 yR3 ?_
 refine s_bs rI [1,2,3] yP24 yR3 ?_
 refine s_bs rI [99] yP24 yR3 ?_
 refine s_bs (rL rI) [([]:List Int),[1],[2],[1,2],[1,3],[1,2,3],[99]] yP177 yR24 ?_
 refine s_as ?_
 refine zf (zd (za ?_))
 refine s_bs rI ([]:List Int) yP24 yR3 ?_
 iterate 3 refine s_mv ?_
 refine zhc yU177 ?_
 obtain ⟨v3,V3,F3⟩:=zc F2
 refine z4 [(9000,9000)] [] _ _ (zaB fu _ _ _ V3) ?_
 obtain ⟨v4,V4,F4⟩:=zc F3
 refine ziy (rL rI) V4 yE177 ?_
 refine s_lA1 (rL rI) V4 rfl yA24 ?_
 obtain ⟨hk5,F5⟩:=zac F4
 refine zel rI (fun _=>rfl) hk5 yP24 ?_
 refine s_fa zf9 ?_
 refine zii yS24 ?_
 refine zf (zd (zb (zb (za ?_))))
 refine s_as ?_
 refine zf (zd (zl ?_))
 refine zaP (β:=Int × (List Int) × Int × (List Form)) [7,31,32,33,34,35,36,37,38,39,40,41,42,43,44,45,46,47,48] [9000,12009] [] (fun a=>[(7,.t (.sc (.int .i64 a.2.1)))]) (fun a=>[(9000,.box [.t (.sl (a.2.2.1.map rB)),.t (.sc (.int .i64 a.2.2.2.1))]),(12009,.arr (a.2.2.2.2.map Form.row) 27 true)]) (fun a=>a.1≤fu∧zcT a.1 v1 v4 a.2.1 a.2.2.1 a.2.2.2.1 a.2.2.2.2=some r∧0≤a.2.1) (fu,0,v3.2.b,v3.2.p,v1.kids) ⟨Nat.le_refl _,F5,by simp⟩ ?_
 clear F5
 rintro ⟨fu,g6,g7,g8,g9⟩ ⟨hl10,F6,hn_g6⟩
 dsimp only at hl10 F6 hn_g6 ⊢
 obtain _ | fu:=fu
 · rw [zcT] at F6;cases F6
 rw [zcT] at F6
 refine zb (zb (za ?_))
 refine s_mv ?_
 refine s_fa zF ?_
 refine zu yA25 ?_
 refine zhc yU25 ?_
 refine s_lt ?_
 refine zf (zd ?_)
 refine zm F6 ?_ ?_<;>intro C11 F7
 refine ziw 33 12009 (fun B12=>?_)
 refine zi (zd (zb (zl ?_)))
 refine zP yMix (by kernel_rfl) ?_
 refine s_fa zF ?_
 refine zu yA25 ?_
 refine s_mv ?_
 refine s_mv ?_
 refine s_fa zF ?_
 refine zu yA25 ?_
 refine s_mv ?_
 obtain ⟨v13,V13,F8⟩:=zc F7
 refine ziy Form.row V13 yE25 ?_
 refine s_lAN Form.row V13 (Form.row_eq _) yA27 yS27 ?_
 obtain ⟨v14,V14,F9⟩:=zc F8
 refine z4 [(9000,9000)] [] _ _ (ih_m_spec_l1Dress fu (by omega) _ _ _ V14) ?_
 obtain ⟨v15,V15,F10⟩:=zc F9
 refine ziy Form.row V15 yE25 ?_
 refine s_stA Form.row v14.1 V15 (Form.row_eq _) (Form.row_eq _) yS27 yS27 ?_
 refine zah (by kernel_rfl) ?_
 refine zW (zd (za ?_))
 refine s_mv ?_
 refine zJ (zar C11 B12 hn_g6) ?_
 refine s_as ?_
 refine zf ?_
 exact s_rn (fu,(g6+1),v14.2.b,v14.2.p,(g9.set g6.toNat v14.1)) ⟨by first | omega | (dsimp only;omega),F10,by first | omega | (dsimp only;omega)⟩
 refine zz (zq (zp (zr (zd (zb (za ?_))))))
 refine zG yA27 yS27 ?_
 refine zab yS27 ?_
 refine zf (zd (zh (zn ?_)))
 cases F7
 exact zZ _ [29,12009] (by rw [Tryz.results121];exact (zas (by conv=>lhs;whnf) (by conv=>lhs;whnf) yA27 yS27 rfl zae))
 refine zi (zd (zb (zb (za ?_))))
 refine s_as ?_
 refine zf (zd (zl ?_))
 refine zaP (β:=Int × (List Int) × Int × (List Form)) [7,31,32,33,34,35,36,37,38,39,40,41,42,43,44,45,46,47,48] [9000,12009] [] (fun a=>[(7,.t (.sc (.int .i64 a.2.1)))]) (fun a=>[(9000,.box [.t (.sl (a.2.2.1.map rB)),.t (.sc (.int .i64 a.2.2.2.1))]),(12009,.arr (a.2.2.2.2.map Form.row) 27 true)]) (fun a=>a.1≤fu∧zcS a.1 v1 a.2.1 a.2.2.1 a.2.2.2.1 a.2.2.2.2=some r∧0≤a.2.1) (fu,0,o1.b,o1.p,v1.kids) ⟨Nat.le_refl _,F2,by simp⟩ ?_
 clear F2
 rintro ⟨fu,g16,g17,g18,g19⟩ ⟨hl20,F3,hn_g16⟩
 dsimp only at hl20 F3 hn_g16 ⊢
 obtain _ | fu:=fu
 · rw [zcS] at F3;cases F3
 rw [zcS] at F3
 refine zb (zb (za ?_))
 refine s_mv ?_
 refine s_fa zF ?_
 refine zu yA25 ?_
 refine zhc yU25 ?_
 refine s_lt ?_
 refine zf (zd ?_)
 refine zm F3 ?_ ?_<;>intro C21 F4
 refine ziw 33 12009 (fun B22=>?_)
 refine zi (zd (zb (zl ?_)))
 refine zP yMix (by kernel_rfl) ?_
 refine s_fa zF ?_
 refine zu yA25 ?_
 refine s_mv ?_
 refine s_mv ?_
 refine s_fa zF ?_
 refine zu yA25 ?_
 refine s_mv ?_
 obtain ⟨v23,V23,F5⟩:=zc F4
 refine ziy Form.row V23 yE25 ?_
 refine s_lAN Form.row V23 (Form.row_eq _) yA27 yS27 ?_
 obtain ⟨v24,V24,F6⟩:=zc F5
 refine z4 [(9000,9000)] [] _ _ (ih_m_spec_l1Dress fu (by omega) _ _ _ V24) ?_
 obtain ⟨v25,V25,F7⟩:=zc F6
 refine ziy Form.row V25 yE25 ?_
 refine s_stA Form.row v24.1 V25 (Form.row_eq _) (Form.row_eq _) yS27 yS27 ?_
 refine zah (by kernel_rfl) ?_
 refine zW (zd (za ?_))
 refine s_mv ?_
 refine zJ (zar C21 B22 hn_g16) ?_
 refine s_as ?_
 refine zf ?_
 exact s_rn (fu,(g16+1),v24.2.b,v24.2.p,(g19.set g16.toNat v24.1)) ⟨by first | omega | (dsimp only;omega),F7,by first | omega | (dsimp only;omega)⟩
 refine zz (zq (zp (zr (zd (zb (za ?_))))))
 refine zG yA27 yS27 ?_
 refine zab yS27 ?_
 refine zf (zd (zh (zn ?_)))
 cases F4
 exact zZ _ [2009,12009] (by rw [Tryz.results121];exact (zas (by conv=>lhs;whnf) (by conv=>lhs;whnf) yA27 yS27 rfl zae))
theorem m_spec_l1Dress_all (fuel:Nat):zf2 fuel:=by
 induction fuel using Nat.strongRecOn with
 | _ N ih =>
   cases N with
   | zero=>exact (by intro o1 x2 r h;rw [zb5] at h;cases h)
   | succ fu=>exact m_spec_l1Dress_st fu (fun k hk=>(ih k (by omega)))
theorem m_spec_l1Dress_ok (fuel:Nat):zf2 fuel:=(m_spec_l1Dress_all fuel)
def m_strings_IndexByte_AC (fuel:Nat):Prop:=∀ (x1:ByteArray) (x2:Int) (r:Int),zeL fuel x1 x2=some r→AC Tryz.prog 143 [.t (.sc (.str x1)),.t (.sc (.int .u8 x2))] noOb (.t (.sc (.int .i64 r))) noOb
theorem zhd (fuel:Nat):m_strings_IndexByte_AC fuel:=by
 intro x1 x2 r h
 obtain rfl:=Option.some.inj h
 exact ac_two (a:=.str x1) (b:=.int .u8 x2) (r:=.int .i64 _) ⟨_,Tryz.func143,by kernel_rfl,by kernel_rfl⟩ (fun w=>Tryz.strings_IndexByte x1 x2 w)
def m_impl_within_AC (fuel:Nat):Prop:=∀ (x1:Int) (x2:Int) (x3:Int) (r:Bool),zdC fuel x1 x2 x3=some r→AC Tryz.prog 74 [.t (.sc (.int .i64 x1)),.t (.sc (.int .i64 x2)),.t (.sc (.int .i64 x3))] noOb (.t (.sc (.bool r))) noOb
theorem zfg (fuel:Nat):m_impl_within_AC fuel:=by
 intro x1 x2 x3 r F0
 unfold zdC at F0
 refine AC_i [.t (.sc (.bool r))] Tryz.func74 rfl Tryz.ntmps74 ?_
 intro C hC
 refine zb (za ?_)
 refine s_as ?_
 refine zf (zd (zb (za ?_)))
 refine s_mv ?_
 refine s_mv ?_
 refine s_ge ?_
 refine s_mv ?_
 refine zo _ 10 F0 ?_ ?_<;>intro C1 F1
 refine s_mv ?_
 refine s_mv ?_
 refine s_le ?_
 refine zA ?_
 refine s_as ?_
 refine zf (zd (zh (zn ?_)))
 cases F1
 exact zk [] [] Tryz.results74
 iterate 3 refine r_no rfl ?_
 refine zy ?_
 refine s_as ?_
 refine zf (zd (zh (zn ?_)))
 cases F1
 exact zk [] [] Tryz.results74
def m_impl_NameValid_AC (fuel:Nat):Prop:=∀ (x1:ByteArray) (r:Bool),zea fuel x1=some r→AC Tryz.prog 72 [.t (.sc (.str x1))] noOb (.t (.sc (.bool r))) noOb
theorem zh8 (fuel:Nat):m_impl_NameValid_AC fuel:=by
 intro x1 r F0
 unfold zea at F0
 refine AC_i [.t (.sc (.bool r))] Tryz.func72 rfl Tryz.ntmps72 ?_
 intro C hC
 refine zb (za ?_)
 refine s_as ?_
 refine zf (zd (zb (zb (za ?_))))
 refine s_mv ?_
 refine zhv ?_
 refine s_mv ?_
 refine zo _ 7 F0 ?_ ?_<;>intro C1 F1
 refine r_no rfl (r_no rfl ?_)
 refine zA ?_
 refine zf (zd (zT rfl (zb (za ?_))))
 refine s_as ?_
 refine zf (zd (zh (zg (zn ?_))))
 cases F1
 exact zk [] [] Tryz.results72
 refine s_mv ?_
 refine zhv ?_
 refine zy ?_
 refine zf (zd ?_)
 refine zm F1 ?_ ?_<;>intro C2 F2
 refine zb (za ?_)
 refine s_as ?_
 refine zf (zd (zh (zg (zn ?_))))
 cases F2
 exact zk [] [] Tryz.results72
 refine zi (zd (zb (zb (za ?_))))
 refine s_as ?_
 refine zf (zd (zl ?_))
 refine zaP (β:=Int) [2,3,4,11,12,13,14,15,16,17,18,19,20,21,22,23,24,25,26,27,28,29,30,31,32,33,34,35,36,37,38,39,40,41,42,43,44,45,46] [] [] (fun a=>[(3,.t (.sc (.int .i64 a.2)))]) (fun a=>[]) (fun a=>a.1≤fuel∧z7 a.1 x1 a.2=some r) (fuel,0) ⟨Nat.le_refl _,F2⟩ ?_
 clear F2
 rintro ⟨fu,g3⟩ ⟨hl4,F3⟩
 dsimp only at hl4 F3 ⊢
 obtain _ | fu:=fu
 · rw [z7] at F3;cases F3
 rw [z7] at F3
 refine zb (zb (za ?_))
 refine s_mv ?_
 refine s_mv ?_
 refine zfH yU9 ?_
 refine s_lt ?_
 refine zf (zd ?_)
 refine zm F3 ?_ ?_<;>intro C5 F4
 refine zi (zd (zb (zl (zb (za ?_)))))
 refine s_mv ?_
 refine s_mv ?_
 obtain ⟨v6,V6,F5⟩:=zc F4
 refine s_ixS V6 yU9 ?_
 refine s_as ?_
 refine zf (zd (zl (zb (za ?_))))
 refine s_mv ?_
 refine s_ge ?_
 refine s_mv ?_
 refine zo _ 23 F5 ?_ ?_<;>intro C7 F6
 refine s_mv ?_
 refine s_le ?_
 refine zA ?_
 refine s_mv ?_
 refine zo _ 27 F6 ?_ ?_<;>intro C8 F7
 iterate 3 refine r_no rfl ?_
 refine zA ?_
 refine s_as ?_
 refine zf (zd (zT rfl (zi (zW (zW (zd (za ?_)))))))
 refine s_mv ?_
 refine zJ rfl ?_
 refine s_as ?_
 refine zf ?_
 exact s_rn (fu,(w64 (g3+1))) ⟨by first | omega | (dsimp only;omega),F7⟩
 refine s_mv ?_
 obtain ⟨v9,V9,F8⟩:=zc F7
 refine zv [] (zhd fu _ _ _ V9) ?_
 refine s_ge ?_
 refine zy ?_
 refine s_as ?_
 refine zf (zd ?_)
 refine zm F8 ?_ ?_<;>intro C10 F9
 refine zi (zW (zW (zd (za ?_))))
 refine s_mv ?_
 refine zJ rfl ?_
 refine s_as ?_
 refine zf ?_
 exact s_rn (fu,(w64 (g3+1))) ⟨by first | omega | (dsimp only;omega),F9⟩
 refine zb (za ?_)
 refine s_mv ?_
 refine s_gt ?_
 refine s_mv ?_
 refine zo _ 35 F9 ?_ ?_<;>intro C11 F10
 refine s_mv ?_
 refine s_ge ?_
 refine s_mv ?_
 refine zo _ 38 F10 ?_ ?_<;>intro C12 F11
 refine s_mv ?_
 refine s_le ?_
 refine zA ?_
 refine s_mv ?_
 refine zo _ 42 F11 ?_ ?_<;>intro C13 F12
 refine r_no rfl (r_no rfl ?_)
 refine zA ?_
 refine zA ?_
 refine s_as ?_
 refine zf (zd (zT rfl (zi (zW (zW (zd (za ?_)))))))
 refine s_mv ?_
 refine zJ rfl ?_
 refine s_as ?_
 refine zf ?_
 exact s_rn (fu,(w64 (g3+1))) ⟨by first | omega | (dsimp only;omega),F12⟩
 refine s_mv ?_
 refine s_eq ?_
 refine zy ?_
 refine zA ?_
 refine s_as ?_
 refine zf (zd ?_)
 refine zm F12 ?_ ?_<;>intro C14 F13
 refine zi (zW (zW (zd (za ?_))))
 refine s_mv ?_
 refine zJ rfl ?_
 refine s_as ?_
 refine zf ?_
 exact s_rn (fu,(w64 (g3+1))) ⟨by first | omega | (dsimp only;omega),F13⟩
 refine zb (za ?_)
 refine s_as ?_
 refine zf (zd (zh (zj (zj (zg (zw (zj (zg (zn ?_)))))))))
 cases F13
 exact zk [] [] Tryz.results72
 refine r_no rfl (r_no rfl ?_)
 refine zy ?_
 refine s_mv ?_
 refine s_mv ?_
 refine s_eq ?_
 refine zy ?_
 refine zA ?_
 refine s_as ?_
 refine zf (zd ?_)
 refine zm F11 ?_ ?_<;>intro C15 F12
 refine zi (zW (zW (zd (za ?_))))
 refine s_mv ?_
 refine zJ rfl ?_
 refine s_as ?_
 refine zf ?_
 exact s_rn (fu,(w64 (g3+1))) ⟨by first | omega | (dsimp only;omega),F12⟩
 refine zb (za ?_)
 refine s_as ?_
 refine zf (zd (zh (zj (zj (zg (zw (zj (zg (zn ?_)))))))))
 cases F12
 exact zk [] [] Tryz.results72
 iterate 10 refine r_no rfl ?_
 refine zy ?_
 refine s_as ?_
 refine zf (zd (zaZ rfl (zb (za ?_))))
 refine s_as ?_
 refine zf (zd (zh (zj (zj (zg (zw (zj (zg (zn ?_)))))))))
 cases F10
 exact zk [] [] Tryz.results72
 refine r_no rfl (r_no rfl ?_)
 refine zy ?_
 refine s_mv ?_
 refine s_mv ?_
 obtain ⟨v16,V16,F7⟩:=zc F6
 refine zv [] (zhd fu _ _ _ V16) ?_
 refine s_ge ?_
 refine zy ?_
 refine s_as ?_
 refine zf (zd ?_)
 refine zm F7 ?_ ?_<;>intro C17 F8
 refine zi (zW (zW (zd (za ?_))))
 refine s_mv ?_
 refine zJ rfl ?_
 refine s_as ?_
 refine zf ?_
 exact s_rn (fu,(w64 (g3+1))) ⟨by first | omega | (dsimp only;omega),F8⟩
 refine zb (za ?_)
 refine s_mv ?_
 refine s_gt ?_
 refine s_mv ?_
 refine zo _ 35 F8 ?_ ?_<;>intro C18 F9
 refine s_mv ?_
 refine s_ge ?_
 refine s_mv ?_
 refine zo _ 38 F9 ?_ ?_<;>intro C19 F10
 refine s_mv ?_
 refine s_le ?_
 refine zA ?_
 refine s_mv ?_
 refine zo _ 42 F10 ?_ ?_<;>intro C20 F11
 refine r_no rfl (r_no rfl ?_)
 refine zA ?_
 refine zA ?_
 refine s_as ?_
 refine zf (zd (zT rfl (zi (zW (zW (zd (za ?_)))))))
 refine s_mv ?_
 refine zJ rfl ?_
 refine s_as ?_
 refine zf ?_
 exact s_rn (fu,(w64 (g3+1))) ⟨by first | omega | (dsimp only;omega),F11⟩
 refine s_mv ?_
 refine s_eq ?_
 refine zy ?_
 refine zA ?_
 refine s_as ?_
 refine zf (zd ?_)
 refine zm F11 ?_ ?_<;>intro C21 F12
 refine zi (zW (zW (zd (za ?_))))
 refine s_mv ?_
 refine zJ rfl ?_
 refine s_as ?_
 refine zf ?_
 exact s_rn (fu,(w64 (g3+1))) ⟨by first | omega | (dsimp only;omega),F12⟩
 refine zb (za ?_)
 refine s_as ?_
 refine zf (zd (zh (zj (zj (zg (zw (zj (zg (zn ?_)))))))))
 cases F12
 exact zk [] [] Tryz.results72
 refine r_no rfl (r_no rfl ?_)
 refine zy ?_
 refine s_mv ?_
 refine s_mv ?_
 refine s_eq ?_
 refine zy ?_
 refine zA ?_
 refine s_as ?_
 refine zf (zd ?_)
 refine zm F10 ?_ ?_<;>intro C22 F11
 refine zi (zW (zW (zd (za ?_))))
 refine s_mv ?_
 refine zJ rfl ?_
 refine s_as ?_
 refine zf ?_
 exact s_rn (fu,(w64 (g3+1))) ⟨by first | omega | (dsimp only;omega),F11⟩
 refine zb (za ?_)
 refine s_as ?_
 refine zf (zd (zh (zj (zj (zg (zw (zj (zg (zn ?_)))))))))
 cases F11
 exact zk [] [] Tryz.results72
 iterate 10 refine r_no rfl ?_
 refine zy ?_
 refine s_as ?_
 refine zf (zd (zaZ rfl (zb (za ?_))))
 refine s_as ?_
 refine zf (zd (zh (zj (zj (zg (zw (zj (zg (zn ?_)))))))))
 cases F9
 exact zk [] [] Tryz.results72
 refine zz (zq (zp (zr (zd (zb (za ?_))))))
 refine s_mv ?_
 refine zfH yU9 ?_
 obtain ⟨v23,V23,F5⟩:=zc F4
 refine zv [] (zfg fu _ _ _ _ V23) ?_
 refine s_as ?_
 refine zf (zd (zh (zn ?_)))
 cases F5
 exact zk [] [] Tryz.results72
def m_impl_scopesOk_AC (fuel:Nat):Prop:=∀ (x1:(List Int)) (r:Bool),zeD fuel x1=some r→AC Tryz.prog 73 [.t (.sl (x1.map rI))] noOb (.t (.sc (.bool r))) noOb
theorem ziq (fuel:Nat):m_impl_scopesOk_AC fuel:=by
 intro x1 r F0
 unfold zeD at F0
 refine AC_i [.t (.sc (.bool r))] Tryz.func73 rfl Tryz.ntmps73 ?_
 intro C hC
 refine zb (za ?_)
 refine s_as ?_
 refine zf (zd (zb (zb (za ?_))))
 refine s_mv ?_
 refine zC yU24 ?_
 refine s_mv ?_
 refine zf (zd (zl ?_))
 refine zaP (β:=Int) [2,3,4,7,8,9,10,11,12,13,14,15,16,17,18,19,20,21,22,23,24,25,26,27,28] [] [] (fun a=>[(7,.t (.sc (.int .i64 a.2)))]) (fun a=>[]) (fun a=>a.1≤fuel∧zbI a.1 x1 a.2=some r∧0≤a.2) (fuel,0) ⟨Nat.le_refl _,F0,by simp⟩ ?_
 clear F0
 rintro ⟨fu,g1⟩ ⟨hl2,F1,hn_g1⟩
 dsimp only at hl2 F1 hn_g1 ⊢
 obtain _ | fu:=fu
 · rw [zbI] at F1;cases F1
 rw [zbI] at F1
 refine zb (za ?_)
 refine s_lt ?_
 refine zf (zd (zb ?_))
 refine zm F1 ?_ ?_<;>intro C3 F2
 refine zM 0 (fun B4=>?_)
 refine zi (zd (zb (zl (zb (za ?_)))))
 refine s_mv ?_
 obtain ⟨v5,V5,F3⟩:=zc F2
 refine zK rI V5 rfl yE24 ?_
 refine zu yA3 ?_
 refine s_as ?_
 refine s_as ?_
 refine zf (zd (zb (za ?_)))
 refine s_mv ?_
 obtain ⟨v6,V6,F4⟩:=zc F3
 refine zv [] (zfg fu _ _ _ _ V6) ?_
 refine zaG ?_
 refine s_mv ?_
 refine zo _ 15 F4 ?_ ?_<;>intro C7 F5
 iterate 11 refine r_no rfl ?_
 refine zA ?_
 refine zf (zd (zT rfl (zb (za ?_))))
 refine s_as ?_
 refine zf (zd (zh (zj (zg (zw (zj (zg (zn ?_))))))))
 cases F5
 exact zk [] [] Tryz.results73
 refine s_mv ?_
 refine s_gt ?_
 refine s_mv ?_
 refine zo _ 18 F5 ?_ ?_<;>intro C8 F6
 refine s_mv ?_
 refine s_mv ?_
 refine zih rfl ?_
 obtain ⟨v9,V9,F7⟩:=zc F6
 refine zK rI V9 rfl yE24 ?_
 refine zu yA3 ?_
 refine s_mv ?_
 refine s_ge ?_
 refine zA ?_
 refine zy ?_
 refine zf (zd ?_)
 refine zm F7 ?_ ?_<;>intro C10 F8
 refine zb (za ?_)
 refine s_as ?_
 refine zf (zd (zh (zj (zg (zw (zj (zg (zn ?_))))))))
 cases F8
 exact zk [] [] Tryz.results73
 refine zi (zW (zd (za ?_)))
 refine zJ (zar C3 B4 hn_g1) ?_
 refine s_mv ?_
 refine zf ?_
 exact s_rn (fu,(g1+1)) ⟨by first | omega | (dsimp only;omega),F8,by first | omega | (dsimp only;omega)⟩
 iterate 7 refine r_no rfl ?_
 refine zy ?_
 refine zy ?_
 refine zf (zd (zaZ rfl (zi (zW (zd (za ?_))))))
 refine zJ (zar C3 B4 hn_g1) ?_
 refine s_mv ?_
 refine zf ?_
 exact s_rn (fu,(g1+1)) ⟨by first | omega | (dsimp only;omega),F6,by first | omega | (dsimp only;omega)⟩
 refine zz (zq (zp (zr (zd (zb (za ?_))))))
 refine s_mv ?_
 refine zC yU24 ?_
 refine s_le ?_
 refine s_as ?_
 refine zf (zd (zh (zn ?_)))
 cases F2
 exact zk [] [] Tryz.results73
def m_slices_Equal_int_AC (fuel:Nat):Prop:=∀ (x1:(List Int)) (x2:(List Int)) (r:Bool),zdk fuel x1 x2=some r→AC Tryz.prog 77 [.t (.sl (x1.map rI)),.t (.sl (x2.map rI))] noOb (.t (.sc (.bool r))) noOb
theorem zhz (fuel:Nat):m_slices_Equal_int_AC fuel:=by
 intro x1 x2 r F0
 unfold zdk at F0
 refine AC_i [.t (.sc (.bool r))] Tryz.func77 rfl Tryz.ntmps77 ?_
 intro C hC
 refine zb (za ?_)
 refine s_as ?_
 refine zf (zd (zb (zb (za ?_))))
 refine s_mv ?_
 refine zC yU24 ?_
 refine s_mv ?_
 refine zC yU24 ?_
 refine s_ne ?_
 refine zf (zd ?_)
 refine zm F0 ?_ ?_<;>intro C1 F1
 refine zb (za ?_)
 refine s_as ?_
 refine zf (zd (zh (zg (zn ?_))))
 cases F1
 exact zk [] [] Tryz.results77
 refine zi (zd (zb (zb (za ?_))))
 refine s_mv ?_
 refine zC yU24 ?_
 refine s_mv ?_
 refine zf (zd (zl ?_))
 refine zaP (β:=Int) [4,5,13,14,15,16,17,18,19,20,21,22,23,24,25] [] [] (fun a=>[(13,.t (.sc (.int .i64 a.2)))]) (fun a=>[]) (fun a=>a.1≤fuel∧zbL a.1 x1 x2 a.2=some r∧0≤a.2) (fuel,0) ⟨Nat.le_refl _,F1,by simp⟩ ?_
 clear F1
 rintro ⟨fu,g2⟩ ⟨hl3,F2,hn_g2⟩
 dsimp only at hl3 F2 hn_g2 ⊢
 obtain _ | fu:=fu
 · rw [zbL] at F2;cases F2
 rw [zbL] at F2
 refine zb (za ?_)
 refine s_lt ?_
 refine zf (zd (zb ?_))
 refine zm F2 ?_ ?_<;>intro C4 F3
 refine zM 0 (fun B5=>?_)
 refine zi (zd (zb (zl (zb (za ?_)))))
 refine s_mv ?_
 refine s_as ?_
 refine zf (zd (zb ?_))
 refine zP yMix (by kernel_rfl) ?_
 refine s_mv ?_
 refine s_mv ?_
 obtain ⟨v6,V6,F4⟩:=zc F3
 refine zK rI V6 rfl yE24 ?_
 refine zu yA3 ?_
 refine s_mv ?_
 refine s_mv ?_
 obtain ⟨v7,V7,F5⟩:=zc F4
 refine zK rI V7 rfl yE24 ?_
 refine zu yA3 ?_
 refine s_ne ?_
 refine zah (by kernel_rfl) ?_
 refine zd ?_
 refine zm F5 ?_ ?_<;>intro C8 F6
 refine zb (za ?_)
 refine s_as ?_
 refine zf (zd (zh (zj (zg (zw (zj (zg (zn ?_))))))))
 cases F6
 exact zk [] [] Tryz.results77
 refine zi (zW (zd (za ?_)))
 refine zJ (zar C4 B5 hn_g2) ?_
 refine s_mv ?_
 refine zf ?_
 exact s_rn (fu,(g2+1)) ⟨by first | omega | (dsimp only;omega),F6,by first | omega | (dsimp only;omega)⟩
 refine zz (zq (zp (zr (zd (zb (za ?_))))))
 refine s_as ?_
 refine zf (zd (zh (zn ?_)))
 cases F3
 exact zk [] [] Tryz.results77
def m_impl_BindsValid_1_AC (fuel:Nat):Prop:=∀ (x1:Bind) (o1:Bind) (r:Bool),zdZ fuel x1 o1=some r→AC Tryz.prog 76 [.ag [.t (.sc (.str x1.name)),.t (.sl (x1.scopes.map rI)),.t (.sc (.int .i64 x1.id))],.rf 9000 0] (objs [(9000,.box [.t (.sc (.str o1.name)),.t (.sl (o1.scopes.map rI)),.t (.sc (.int .i64 o1.id))])]) (.t (.sc (.bool r))) (objs [(9000,.box [.t (.sc (.str o1.name)),.t (.sl (o1.scopes.map rI)),.t (.sc (.int .i64 o1.id))])])
theorem m_impl_BindsValid_1_ok (fuel:Nat):m_impl_BindsValid_1_AC fuel:=by
 intro x1 o1 r F0
 unfold zdZ at F0
 refine AC_i [.t (.sc (.bool r))] Tryz.func76 rfl Tryz.ntmps76 ?_
 intro C hC
 refine zb (za ?_)
 refine zaN ?_
 refine s_as ?_
 refine zf (zd (zb (za ?_)))
 refine s_fa yF93_0 ?_
 refine zu yA9 ?_
 refine s_fa yF93_0 ?_
 refine zu yA9 ?_
 refine zhv ?_
 refine s_mv ?_
 refine zo _ 9 F0 ?_ ?_<;>intro C1 F1
 refine s_fa yF93_1 ?_
 refine zu yA24 ?_
 refine s_fa yF93_1 ?_
 refine zu yA24 ?_
 obtain ⟨v2,V2,F2⟩:=zc F1
 refine zv [] (zhz fuel _ _ _ V2) ?_
 refine zA ?_
 refine s_as ?_
 refine zf (zd (zh (zn ?_)))
 cases F2
 exact zk _ [] Tryz.results76
 iterate 5 refine r_no rfl ?_
 refine zy ?_
 refine s_as ?_
 refine zf (zd (zh (zn ?_)))
 cases F1
 exact zk _ [] Tryz.results76
def zfN (fuel:Nat):Prop:=∀ (x1:(List Bind)) (o1:Bind) (r:Int),zbf fuel x1 o1=some r→AC Tryz.prog 144 [.t (.sl (x1.map Bind.row)),.fn 76 [.rf 9000 0]] (objs [(9000,.box [.t (.sc (.str o1.name)),.t (.sl (o1.scopes.map rI)),.t (.sc (.int .i64 o1.id))])]) (.t (.sc (.int .i64 r))) (objs [(9000,.box [.t (.sc (.str o1.name)),.t (.sl (o1.scopes.map rI)),.t (.sc (.int .i64 o1.id))])])
theorem zfM (fuel:Nat):zfN fuel:=by
 intro x1 o1 r F0
 unfold zbf at F0
 refine AC_i [.t (.sc (.int .i64 r))] Tryz.func144 rfl Tryz.ntmps144 ?_
 intro C hC
 refine zb (za ?_)
 refine s_as ?_
 refine zf (zd (zb (zb (za ?_))))
 refine s_mv ?_
 refine zC yU23 ?_
 refine s_mv ?_
 refine zf (zd (zl ?_))
 refine zaP (β:=Int) [4,5,8,9,10,11,12,13,14,15,16,17,18] [] [] (fun a=>[(8,.t (.sc (.int .i64 a.2)))]) (fun a=>[]) (fun a=>a.1≤fuel∧z5 a.1 x1 o1 a.2=some r∧0≤a.2) (fuel,0) ⟨Nat.le_refl _,F0,by simp⟩ ?_
 clear F0
 rintro ⟨fu,g1⟩ ⟨hl2,F1,hn_g1⟩
 dsimp only at hl2 F1 hn_g1 ⊢
 obtain _ | fu:=fu
 · rw [z5] at F1;cases F1
 rw [z5] at F1
 refine zb (za ?_)
 refine s_lt ?_
 refine zf (zd (zb ?_))
 refine zm F1 ?_ ?_<;>intro C3 F2
 refine zM 0 (fun B4=>?_)
 refine zi (zd (zb (zl (zb (za ?_)))))
 refine s_mv ?_
 refine s_as ?_
 refine zf (zd (zb (za ?_)))
 iterate 3 refine s_mv ?_
 obtain ⟨v5,V5,F3⟩:=zc F2
 refine zK Bind.row V5 (Bind.row_eq _) yE23 ?_
 refine zai yA93 yS93 ?_
 obtain ⟨v6,V6,F4⟩:=zc F3
 refine z4 [(9000,9000)] [] _ _ (m_impl_BindsValid_1_ok fu _ _ _ V6) ?_
 refine zf (zd ?_)
 refine zm F4 ?_ ?_<;>intro C7 F5
 refine zb (za ?_)
 refine s_mv ?_
 refine s_as ?_
 refine zf (zd (zh (zj (zg (zw (zj (zg (zn ?_))))))))
 cases F5
 exact zk _ [] Tryz.results144
 refine zi (zW (zd (za ?_)))
 refine zJ (zar C3 B4 hn_g1) ?_
 refine s_mv ?_
 refine zf ?_
 exact s_rn (fu,(g1+1)) ⟨by first | omega | (dsimp only;omega),F5,by first | omega | (dsimp only;omega)⟩
 refine zz (zq (zp (zr (zd (zb (za ?_))))))
 refine s_as ?_
 refine zf (zd (zh (zn ?_)))
 cases F2
 exact zk _ [] Tryz.results144
def zff (fuel:Nat):Prop:=∀ (x1:(List Bind)) (o1:Bind) (r:Bool),zaV fuel x1 o1=some r→AC Tryz.prog 75 [.t (.sl (x1.map Bind.row)),.fn 76 [.rf 9000 0]] (objs [(9000,.box [.t (.sc (.str o1.name)),.t (.sl (o1.scopes.map rI)),.t (.sc (.int .i64 o1.id))])]) (.t (.sc (.bool r))) (objs [(9000,.box [.t (.sc (.str o1.name)),.t (.sl (o1.scopes.map rI)),.t (.sc (.int .i64 o1.id))])])
theorem zfe (fuel:Nat):zff fuel:=by
 intro x1 o1 r F0
 unfold zaV at F0
 refine AC_i [.t (.sc (.bool r))] Tryz.func75 rfl Tryz.ntmps75 ?_
 intro C hC
 refine zb (za ?_)
 refine s_as ?_
 refine zf (zd (zb (za ?_)))
 refine s_mv ?_
 refine s_mv ?_
 obtain ⟨v1,V1,F1⟩:=zc F0
 refine z4 [(9000,9000)] [] _ _ (zfM fuel _ _ _ V1) ?_
 refine s_ge ?_
 refine s_as ?_
 refine zf (zd (zh (zn ?_)))
 cases F1
 exact zk _ [] Tryz.results75
def m_impl_BindsValid_AC (fuel:Nat):Prop:=∀ (x1:(List Bind)) (r:Bool),zco fuel x1=some r→AC Tryz.prog 17 [.t (.sl (x1.map Bind.row))] noOb (.t (.sc (.bool r))) noOb
theorem zew (fuel:Nat):m_impl_BindsValid_AC fuel:=by
 intro x1 r F0
 unfold zco at F0
 refine AC_i [.t (.sc (.bool r))] Tryz.func17 rfl Tryz.ntmps17 ?_
 intro C hC
 refine zb (za ?_)
 refine s_as ?_
 refine zf (zd (zb (zb (za ?_))))
 refine s_mv ?_
 refine zC yU23 ?_
 refine s_mv ?_
 refine zf (zd (zl ?_))
 refine zaP (β:=Int) [2,3,4,7,8,9,10,11,12,13,14,15,16,17,18,19,20,21,22,23,24,25,26,27,28,29,30,31,32,33] [] [4] (fun a=>[(7,.t (.sc (.int .i64 a.2)))]) (fun a=>[]) (fun a=>a.1≤fuel∧zbB a.1 x1 a.2=some r∧0≤a.2) (fuel,0) ⟨Nat.le_refl _,F0,by simp⟩ ?_
 clear F0
 rintro ⟨fu,g1⟩ ⟨hl2,F1,hn_g1⟩
 dsimp only at hl2 F1 hn_g1 ⊢
 obtain _ | fu:=fu
 · rw [zbB] at F1;cases F1
 rw [zbB] at F1
 refine zb (za ?_)
 refine s_lt ?_
 refine zf (zd (zb ?_))
 refine zm F1 ?_ ?_<;>intro C3 F2
 refine zM 0 (fun B4=>?_)
 refine zi (zd (zb (zl (zb (za ?_)))))
 refine s_mv ?_
 obtain ⟨v5,V5,F3⟩:=zc F2
 refine zK Bind.row V5 (Bind.row_eq _) yE23 ?_
 refine zai yA93 yS93 ?_
 refine zU yZ93 ?_
 refine s_as ?_
 refine zab yS93 ?_
 refine zf (zd (zb ?_))
 refine za2 (α:=Nat × Bool) [12,13,14,15,16,17,18,19,20,21,22,23,24,25,26,27] [] [] (fun a=>[(27,.t (.sc (.bool a.2)))]) (fun a=>[]) (fun a=>a.1≤fu∧za9 a.1 x1 g1 v5 a.2=some r) ?_ ?_
 refine za ?_
 refine s_fa yF93_0 ?_
 refine zu yA9 ?_
 obtain ⟨v6,V6,F4⟩:=zc F3
 refine zv [] (zh8 fu _ _ V6) ?_
 refine zaG ?_
 refine s_mv ?_
 refine zo _ 16 F4 ?_ ?_<;>intro C7 F5
 iterate 4 refine r_no rfl ?_
 refine zA ?_
 refine s_mv ?_
 iterate 4 refine r_no rfl ?_
 refine zA ?_
 refine zf ?_
 exact s_jn (fu,true) ⟨by first | omega | (dsimp only;omega),F5⟩
 refine s_fa yF93_1 ?_
 refine zu yA24 ?_
 obtain ⟨v8,V8,F6⟩:=zc F5
 refine zv [] (ziq fu _ _ V8) ?_
 refine zaG ?_
 refine zy ?_
 refine s_mv ?_
 refine zo _ 22 F6 ?_ ?_<;>intro C9 F7
 iterate 4 refine r_no rfl ?_
 refine zA ?_
 refine zf ?_
 exact s_jn (fu,true) ⟨by first | omega | (dsimp only;omega),F7⟩
 refine s_fa yF93_2 ?_
 refine zu yA3 ?_
 obtain ⟨v10,V10,F8⟩:=zc F7
 refine zv [] (zfg fu _ _ _ _ V10) ?_
 refine zaG ?_
 refine zy ?_
 refine zf ?_
 exact s_jn (fu,(!v10)) ⟨by first | omega | (dsimp only;omega),F8⟩
 clear F3
 rintro ⟨fu,g11⟩ ⟨hl12,F4⟩
 dsimp only at hl12 F4 ⊢
 obtain _ | fu:=fu
 · rw [za9] at F4;cases F4
 rw [za9] at F4
 refine zm F4 ?_ ?_<;>intro C13 F5
 refine zb (za ?_)
 refine s_as ?_
 refine zf (zd (zh (zg (zj (zg (zw (zj (zg (zn ?_)))))))))
 cases F5
 exact zk [] [] Tryz.results17
 refine zi (zd (zb (za ?_)))
 refine s_mv ?_
 refine s_mv ?_
 obtain ⟨v14,V14,F6⟩:=zc F5
 refine s_sl01 Bind.row (fun y=>Bind.row_len y) V14 yU23 yE23 ?_
 refine s_fn ?_
 obtain ⟨v15,V15,F7⟩:=zc F6
 refine z4 [(9000,4)] [] _ _ (zfe fu _ _ _ V15) ?_
 refine zf (zd ?_)
 refine zm F7 ?_ ?_<;>intro C16 F8
 refine zb (za ?_)
 refine s_as ?_
 refine zf (zd (zh (zj (zg (zw (zj (zg (zn ?_))))))))
 cases F8
 exact zk [] [] Tryz.results17
 refine zi (zW (zd (za ?_)))
 refine zJ (zar C3 B4 hn_g1) ?_
 refine s_mv ?_
 refine zf ?_
 exact s_rn (fu,(g1+1)) ⟨by first | omega | (dsimp only;omega),F8,by first | omega | (dsimp only;omega)⟩
 refine zz (zq (zp (zr (zd (zb (za ?_))))))
 refine s_mv ?_
 refine zC yU23 ?_
 refine s_le ?_
 refine s_as ?_
 refine zf (zd (zh (zn ?_)))
 cases F2
 exact zk [] [] Tryz.results17
end Go.Abs
