/- A part of the proof: what the functions that the law calls answer, as pure values. -/
import Derived.Test.YtilpcjgklfjdgaaGreatK8a1257ef4d71
import Derived.Test.YtilpcjgklfjdgaaGreatKb8c86019bdb7
import Derived.Test.YtilpcjgklfjdgaaGreatKd150640a58b9
import Derived.Test.YtilpcjgklfjdgaaGreatKbeececb3b691
import Derived.Test.YtilpcjgklfjdgaaGreatKe5b598c0b17e
import Derived.Test.YtilpcjgklfjdgaaGreatK349a5dde2cfa
import Derived.Test.YtilpcjgklfjdgaaGreatK944daf6655d5
set_option linter.unusedSimpArgs false
set_option linter.unusedVariables false
set_option maxRecDepth 100000
set_option maxHeartbeats 4000000
namespace Go.Abs
open Go.Proofs
def m_spec_ApplyRules_AC (fuel:Nat):Prop:=∀ (x1:(List Bind)) (x2:(List Rule)) (x3:(List Form)) (x4:Form) (r:(Form × Bool)),zeB fuel x1 x2 x3 x4=some r→AC Tryz.prog 25 [.t (.sl (x1.map Bind.row)),.t (.sl (x2.map Rule.row)),.t (.sl (x3.map Form.row)),.ag [.t (.sc (.int .i64 x4.kind)),.t (.sc (.str x4.name)),.t (.sc (.int .i64 x4.n)),.t (.sl (x4.scopes.map rI)),.t (.sl (x4.kids.map Form.row))]] noOb (.tp [.ag [.t (.sc (.int .i64 r.1.kind)),.t (.sc (.str r.1.name)),.t (.sc (.int .i64 r.1.n)),.t (.sl (r.1.scopes.map rI)),.t (.sl (r.1.kids.map Form.row))],.t (.sc (.bool r.2))]) noOb
theorem m_spec_ApplyRules_ok (fuel:Nat):m_spec_ApplyRules_AC fuel:=by
 intro x1 x2 x3 x4 r F0
 unfold zeB at F0
 refine AC_i [.ag [.t (.sc (.int .i64 r.1.kind)),.t (.sc (.str r.1.name)),.t (.sc (.int .i64 r.1.n)),.t (.sl (r.1.scopes.map rI)),.t (.sl (r.1.kids.map Form.row))],.t (.sc (.bool r.2))] Tryz.func25 rfl Tryz.ntmps25 ?_
 intro C hC
 refine zb (za ?_)
 refine zaL ?_
 refine zU yZ32 ?_
 refine s_as ?_
 refine zf (zd (zb (za ?_)))
 refine s_mv ?_
 obtain ⟨v1,V1,F1⟩:=zc F0
 refine zv [] (ziF fuel _ _ V1) ?_
 refine s_as ?_
 refine zf (zd (zb (za ?_)))
 iterate 3 refine s_mv ?_
 refine zI yA32 yS32 ?_
 obtain ⟨v2,V2,F2⟩:=zc F1
 refine zv [] (m_spec_FirstRule_ok fuel _ _ _ _ _ V2) ?_
 refine s_mv ?_
 refine zbf ?_
 refine zbf ?_
 refine s_as ?_
 refine s_as ?_
 refine zf (zd (zb (zb (za ?_))))
 refine s_mv ?_
 refine zaY ?_
 refine zf (zd ?_)
 refine zm F2 ?_ ?_<;>intro C3 F3
 refine zb (za ?_)
 refine zgD yZ32 yL32 ?_
 refine zac yS32 ?_
 refine s_as ?_
 refine zf (zd (zh (zg (zn ?_))))
 cases F3
 exact z4 [] [] (by rw [Tryz.results25];exact (zat (by conv=>lhs;whnf) (by conv=>lhs;whnf) yA32 yS32 rfl (zai (by conv=>lhs;whnf) zaf)))
 refine zi (zd (zb ?_))
 refine zO yMix (by kernel_rfl) ?_
 iterate 3 refine s_mv ?_
 obtain ⟨v4,V4,F4⟩:=zc F3
 refine zK Rule.row V4 (Rule.row_eq _) yE23 ?_
 refine s_fa zic ?_
 refine zam yA32 yS32 ?_
 refine s_mv ?_
 refine zI yA32 yS32 ?_
 obtain ⟨v5,V5,F5⟩:=zc F4
 refine zv [] (ziD fuel _ _ _ _ _ V5) ?_
 refine s_mv ?_
 refine zbf ?_
 refine zbf ?_
 refine s_as ?_
 refine s_as ?_
 refine zae (by kernel_rfl) ?_
 refine zd (zb (za ?_))
 refine s_mv ?_
 refine s_mv ?_
 obtain ⟨v6,V6,F6⟩:=zc F5
 refine zK Rule.row V6 (Rule.row_eq _) yE23 ?_
 refine s_fa yF37_1 ?_
 refine zam yA32 yS32 ?_
 refine s_mv ?_
 obtain ⟨v7,V7,F7⟩:=zc F6
 refine zv [] (m_spec_l5Fill_ok fuel _ _ _ V7) ?_
 refine s_mv ?_
 refine zbf ?_
 refine zbf ?_
 refine zU yZ32 ?_
 refine zac yS32 ?_
 refine s_as ?_
 refine zf (zd (zb (zb (za ?_))))
 refine s_mv ?_
 refine zaY ?_
 refine s_mv ?_
 refine zp _ 53 F7 ?_ ?_<;>intro C8 F8
 iterate 3 refine r_no rfl ?_
 refine zA ?_
 refine zf (zd (zT rfl (zb (za ?_))))
 refine zgD yZ32 yL32 ?_
 refine zac yS32 ?_
 refine s_as ?_
 refine zf (zd (zh (zg (zn ?_))))
 cases F8
 exact z4 [] [] (by rw [Tryz.results25];exact (zat (by conv=>lhs;whnf) (by conv=>lhs;whnf) yA32 yS32 rfl (zai (by conv=>lhs;whnf) zaf)))
 refine zI yA32 yS32 ?_
 obtain ⟨v9,V9,F9⟩:=zc F8
 refine zv [] (zcd fuel _ _ V9) ?_
 refine zaY ?_
 refine zz ?_
 refine zf (zd ?_)
 refine zm F9 ?_ ?_<;>intro C10 F10
 refine zb (za ?_)
 refine zgD yZ32 yL32 ?_
 refine zac yS32 ?_
 refine s_as ?_
 refine zf (zd (zh (zg (zn ?_))))
 cases F10
 exact z4 [] [] (by rw [Tryz.results25];exact (zat (by conv=>lhs;whnf) (by conv=>lhs;whnf) yA32 yS32 rfl (zai (by conv=>lhs;whnf) zaf)))
 refine zi (zd (zb (za ?_)))
 refine zI yA32 yS32 ?_
 refine zac yS32 ?_
 refine s_as ?_
 refine zf (zd (zh (zn ?_)))
 cases F10
 exact z4 [] [] (by rw [Tryz.results25];exact (zat (by conv=>lhs;whnf) (by conv=>lhs;whnf) yA32 yS32 rfl (zai (by conv=>lhs;whnf) zaf)))
def zi7 (fuel:Nat):Prop:=∀ (x1:(List Int)) (r:Bool),zev fuel x1=some r→AC Tryz.prog 6 [.t (.sl (x1.map rB))] noOb (.t (.sc (.bool r))) noOb
theorem zi6 (fuel:Nat):zi7 fuel:=by
 intro x1 r F0
 unfold zev at F0
 refine AC_i [.t (.sc (.bool r))] Tryz.func6 rfl Tryz.ntmps6 ?_
 intro C hC
 refine zb (za ?_)
 refine s_as ?_
 refine zf (zd (zb (zb (za ?_))))
 refine s_mv ?_
 refine zC yU22 ?_
 refine s_gt ?_
 refine zf (zd ?_)
 refine zm F0 ?_ ?_<;>intro C1 F1
 refine zM 0 (fun B2=>?_)
 refine zb (za ?_)
 refine s_as ?_
 refine zf (zd (zh (zg (zn ?_))))
 cases F1
 exact zk [] [] Tryz.results6
 refine zi (zd (zb (za ?_)))
 refine s_mv ?_
 obtain ⟨v3,V3,F2⟩:=zc F1
 refine zv [] (ziI fuel _ _ V3) ?_
 refine s_mv ?_
 iterate 4 refine zbf ?_
 refine zU yZ32 ?_
 iterate 3 refine s_as ?_
 refine zac yS32 ?_
 refine zf (zd (zb (za ?_)))
 iterate 3 refine s_mv ?_
 refine zI yA32 yS32 ?_
 obtain ⟨v4,V4,F3⟩:=zc F2
 refine zv [] (zf5 fuel _ _ _ _ _ V4) ?_
 refine s_mv ?_
 refine zbf ?_
 refine zbf ?_
 refine zU yZ32 ?_
 refine zac yS32 ?_
 refine s_as ?_
 refine zf (zd (zb (za ?_)))
 iterate 3 refine s_mv ?_
 refine zI yA32 yS32 ?_
 obtain ⟨v5,V5,F4⟩:=zc F3
 refine zv [] (m_spec_ApplyRules_ok fuel _ _ _ _ _ V5) ?_
 refine s_mv ?_
 refine zbf ?_
 refine zbf ?_
 refine zU yZ32 ?_
 refine zac yS32 ?_
 refine s_as ?_
 refine zf (zd (zb (za ?_)))
 iterate 3 refine s_mv ?_
 refine zI yA32 yS32 ?_
 obtain ⟨v6,V6,F5⟩:=zc F4
 refine zv [] (zh3 fuel _ _ _ _ _ V6) ?_
 refine s_mv ?_
 refine zbf ?_
 refine zbf ?_
 refine s_as ?_
 refine s_as ?_
 refine zf (zd (zb ?_))
 refine zbb (α:=Nat × Bool) [51,52,53,54,55,56,57,58,59,60,61,62,63] [] [] (fun a=>[(63,.t (.sc (.bool a.2)))]) (fun a=>[]) (fun a=>a.1≤fuel∧zaS a.1 v3 v4 v5 v6 a.2=some r) ?_ ?_
 refine za ?_
 refine zI yA32 yS32 ?_
 refine zI yA32 yS32 ?_
 obtain ⟨v7,V7,F6⟩:=zc F5
 refine zv [] (zaU fuel _ _ _ V7) ?_
 refine zaY ?_
 refine s_mv ?_
 refine zp _ 55 F6 ?_ ?_<;>intro C8 F7
 iterate 3 refine r_no rfl ?_
 refine zA ?_
 refine s_mv ?_
 refine r_no rfl (r_no rfl ?_)
 refine zA ?_
 refine zf ?_
 exact s_jn (fuel,true) ⟨by first | omega | (dsimp only;omega),F7⟩
 refine s_mv ?_
 refine s_mv ?_
 refine s_neB yU4 ?_
 refine zz ?_
 refine s_mv ?_
 refine zp _ 60 F7 ?_ ?_<;>intro C9 F8
 refine r_no rfl (r_no rfl ?_)
 refine zA ?_
 refine zf ?_
 exact s_jn (fuel,true) ⟨by first | omega | (dsimp only;omega),F8⟩
 refine s_mv ?_
 refine zaY ?_
 refine zz ?_
 refine zf ?_
 exact s_jn (fuel,(!v6.2)) ⟨by first | omega | (dsimp only;omega),F8⟩
 clear F5
 rintro ⟨fu,g10⟩ ⟨hl11,F6⟩
 dsimp only at hl11 F6 ⊢
 obtain _ | fu:=fu
 · rw [zaS] at F6;cases F6
 rw [zaS] at F6
 refine zm F6 ?_ ?_<;>intro C12 F7
 refine zbb (α:=Nat × Bool) [2,64,65,66,67,68,69,70,71] [] [] (fun a=>[(2,.t (.sc (.bool a.2)))]) (fun a=>[]) (fun a=>a.1≤fu∧zbW a.1  a.2=some r) ?_ ?_
 refine za ?_
 refine zI yA32 yS32 ?_
 refine zI yA32 yS32 ?_
 obtain ⟨v13,V13,F8⟩:=zc F7
 refine zv [] (zaU fu _ _ _ V13) ?_
 refine s_mv ?_
 refine zp _ 67 F8 ?_ ?_<;>intro C14 F9
 refine s_mv ?_
 refine s_mv ?_
 refine s_eqB yU4 ?_
 refine zA ?_
 refine s_as ?_
 refine zf ?_
 exact s_jn (fu,(decide (v4.2=v5.2))) ⟨by first | omega | (dsimp only;omega),F9⟩
 iterate 3 refine r_no rfl ?_
 refine zz ?_
 refine s_as ?_
 refine zf ?_
 exact s_jn (fu,false) ⟨by first | omega | (dsimp only;omega),F9⟩
 clear F7
 rintro ⟨fu,g15⟩ ⟨hl16,F8⟩
 dsimp only at hl16 F8 ⊢
 obtain _ | fu:=fu
 · rw [zbW] at F8;cases F8
 rw [zbW] at F8
 refine zh (zg (zn ?_))
 cases F8
 exact zk [] [] Tryz.results6
 refine zi (zd (zb ?_))
 refine zO yMix (by kernel_rfl) ?_
 iterate 3 refine s_mv ?_
 refine zJ rfl ?_
 obtain ⟨v17,V17,F8⟩:=zc F7
 refine s_sl01 Rule.row (fun y=>Rule.row_len y) V17 yU23 yE23 ?_
 refine s_mv ?_
 refine zI yA32 yS32 ?_
 obtain ⟨v18,V18,F9⟩:=zc F8
 refine zv [] (zf5 fu _ _ _ _ _ V18) ?_
 refine s_mv ?_
 refine zbf ?_
 refine zbf ?_
 refine zU yZ32 ?_
 refine zac yS32 ?_
 refine s_as ?_
 refine zae (by kernel_rfl) ?_
 refine zd (zb ?_)
 refine zO yMix (by kernel_rfl) ?_
 iterate 4 refine s_mv ?_
 refine zJ rfl ?_
 obtain ⟨v19,V19,F10⟩:=zc F9
 refine s_sl11 Rule.row (fun y=>Rule.row_len y) V19 yU23 yE23 ?_
 refine s_mv ?_
 refine zI yA32 yS32 ?_
 obtain ⟨v20,V20,F11⟩:=zc F10
 refine zv [] (zf5 fu _ _ _ _ _ V20) ?_
 refine s_mv ?_
 refine zbf ?_
 refine zbf ?_
 refine zU yZ32 ?_
 refine zac yS32 ?_
 refine s_as ?_
 refine zae (by kernel_rfl) ?_
 refine zd (zb (za ?_))
 refine s_mv ?_
 refine s_mv ?_
 refine s_eqB yU4 ?_
 refine s_mv ?_
 refine zp _ 98 F11 ?_ ?_<;>intro C21 F12
 refine s_mv ?_
 refine s_mv ?_
 refine s_eqB yU4 ?_
 refine zA ?_
 refine s_mv ?_
 refine zp _ 103 F12 ?_ ?_<;>intro C22 F13
 refine zI yA32 yS32 ?_
 refine zI yA32 yS32 ?_
 obtain ⟨v23,V23,F14⟩:=zc F13
 refine zv [] (zaU fu _ _ _ V23) ?_
 refine zA ?_
 refine s_mv ?_
 refine zp _ 108 F14 ?_ ?_<;>intro C24 F15
 refine zI yA32 yS32 ?_
 refine zI yA32 yS32 ?_
 obtain ⟨v25,V25,F16⟩:=zc F15
 refine zv [] (zaU fu _ _ _ V25) ?_
 refine zA ?_
 refine s_as ?_
 refine zf (zd (zh (zn ?_)))
 cases F16
 exact zk [] [] Tryz.results6
 iterate 3 refine r_no rfl ?_
 refine zz ?_
 refine s_as ?_
 refine zf (zd (zh (zn ?_)))
 cases F15
 exact zk [] [] Tryz.results6
 iterate 3 refine r_no rfl ?_
 refine zz ?_
 refine s_mv ?_
 iterate 3 refine r_no rfl ?_
 refine zz ?_
 refine s_as ?_
 refine zf (zd (zh (zn ?_)))
 cases F13
 exact zk [] [] Tryz.results6
 iterate 3 refine r_no rfl ?_
 refine zz ?_
 refine s_mv ?_
 iterate 3 refine r_no rfl ?_
 refine zz ?_
 refine s_mv ?_
 iterate 3 refine r_no rfl ?_
 refine zz ?_
 refine s_as ?_
 refine zf (zd (zh (zn ?_)))
 cases F12
 exact zk [] [] Tryz.results6
end Go.Abs
