/- A part of the proof: what the functions that the law calls answer, as pure values. -/
import Derived.Test.YtilpcjgklfjdgaaGreatK67921631fc15
import Derived.Test.YtilpcjgklfjdgaaGreatK75e03ecae9fd
import Derived.Test.YtilpcjgklfjdgaaGreatKb8c86019bdb7
import Derived.Test.YtilpcjgklfjdgaaGreatKbeececb3b691
import Derived.Test.YtilpcjgklfjdgaaGreatK8412ad06d820
import Derived.Test.YtilpcjgklfjdgaaGreatK25b6b0d87810
import Derived.Test.YtilpcjgklfjdgaaGreatK6646ba393ca5
set_option linter.unusedSimpArgs false
set_option linter.unusedVariables false
set_option maxRecDepth 100000
set_option maxHeartbeats 4000000
namespace Go.Abs
open Go.Proofs
theorem m_spec_l1Dress_all (fuel:Nat):zfY fuel:=by
 induction fuel using Nat.strongRecOn with
 | _ N ih =>
   cases N with
   | zero=>exact (by intro o1 x2 r h;rw [zb3] at h;cases h)
   | succ fu=>exact m_spec_l1Dress_st fu (fun k hk=>(ih k (by omega)))
theorem m_spec_l1Dress_ok (fuel:Nat):zfY fuel:=(m_spec_l1Dress_all fuel)
def m_spec_l5Case_AC (fuel:Nat):Prop:=∀ (x1:(List Int)) (r:((List Form) × (List Rule) × Form)),zgT fuel x1=some r→AC Tryz.prog 28 [.t (.sl (x1.map rB))] (objs []) (.tp [.t (.sl (r.1.map Form.row)),.ar 9300,.ag [.t (.sc (.int .i64 r.2.2.kind)),.t (.sc (.str r.2.2.name)),.t (.sc (.int .i64 r.2.2.n)),.t (.sl (r.2.2.scopes.map rI)),.t (.sl (r.2.2.kids.map Form.row))]]) (objs [(9300,.arr (r.2.1.map Rule.row) 37 false)])
theorem m_spec_l5Case_ok (fuel:Nat):m_spec_l5Case_AC fuel:=by
 intro x1 r F0
 unfold zgT at F0
 refine AC_i [.t (.sl (r.1.map Form.row)),.ar 9300,.ag [.t (.sc (.int .i64 r.2.2.kind)),.t (.sc (.str r.2.2.name)),.t (.sc (.int .i64 r.2.2.n)),.t (.sl (r.2.2.scopes.map rI)),.t (.sl (r.2.2.kids.map Form.row))]] Tryz.func28 rfl Tryz.ntmps28 ?_
 intro C hC
 refine zb (za ?_)
 refine s_as ?_
 refine s_as ?_
 refine zU yZ32 ?_
 refine zf (zd (zb (za ?_)))
 refine s_mv ?_
 obtain ⟨v1,V1,F1⟩:=zc F0
 refine zY [(10,14)] [] _ _ (m_spec_l15Open_ok fuel _ _ V1) ?_
 refine s_as ?_
 refine zf (zd (zb (za ?_)))
 obtain ⟨v2,V2,F2⟩:=zc F1
 refine zv [] (m_spec_l5Texts_ok fuel _ V2) ?_
 refine s_as ?_
 refine zf (zd (zb (za ?_)))
 refine s_mv ?_
 refine s_mv ?_
 refine zC yU83 ?_
 obtain ⟨v3,V3,F3⟩:=zc F2
 refine zY [(9000,14)] [] _ _ (zaA fuel _ _ _ V3) ?_
 refine s_as ?_
 refine zf (zd (zb (za ?_)))
 refine s_mv ?_
 refine s_mv ?_
 obtain ⟨v4,V4,F4⟩:=zc F3
 refine zK (rL rS) V4 rfl yE83 ?_
 refine zu yA51 ?_
 obtain ⟨v5,V5,F5⟩:=zc F4
 refine zK rS V5 rfl yE51 ?_
 refine zu yA9 ?_
 obtain ⟨v6,V6,F6⟩:=zc F5
 refine zv [] (zfW fuel _ _ V6) ?_
 refine zU yZ32 ?_
 refine zac yS32 ?_
 refine zf (zd ?_)
 refine zbb (α:=Nat × (List Int) × Int × Int × ByteArray × Int × (List Int) × (List Form)) [27,28,29,30,31,32,33,34] [8,14] [] (fun a=>[]) (fun a=>[(8,.box [.t (.sc (.int .i64 a.2.2.2.1)),.t (.sc (.str a.2.2.2.2.1)),.t (.sc (.int .i64 a.2.2.2.2.2.1)),.t (.sl (a.2.2.2.2.2.2.1.map rI)),.t (.sl (a.2.2.2.2.2.2.2.map Form.row))]),(14,.box [.t (.sl (a.2.1.map rB)),.t (.sc (.int .i64 a.2.2.1))])]) (fun a=>a.1≤fuel∧zcE a.1 v2 v3 a.2.1 a.2.2.1 a.2.2.2.1 a.2.2.2.2.1 a.2.2.2.2.2.1 a.2.2.2.2.2.2.1 a.2.2.2.2.2.2.2=some r) ?_ ?_
 refine zb (za ?_)
 refine s_mv ?_
 obtain ⟨v7,V7,F7⟩:=zc F6
 refine zY [(9000,14)] [] _ _ (zaA fuel _ _ _ V7) ?_
 refine s_eq ?_
 refine zf (zd ?_)
 refine zm F7 ?_ ?_<;>intro C8 F8
 refine za ?_
 refine s_mv ?_
 refine s_mv ?_
 refine zI yA32 yS32 ?_
 obtain ⟨v9,V9,F9⟩:=zc F8
 refine zY [(9000,14)] [] _ _ (zfr fuel _ _ _ V9) ?_
 obtain ⟨v10,V10,F10⟩:=zc F9
 refine zY [(9000,14)] [] _ _ (zfr fuel _ _ _ V10) ?_
 refine zac yS32 ?_
 refine zf ?_
 exact s_jn (fuel,v10.2.b,v10.2.p,v10.1.kind,v10.1.name,v10.1.n,v10.1.scopes,v10.1.kids) ⟨by first | omega | (dsimp only;omega),F10⟩
 refine zi ?_
 exact s_jn (fuel,v7.2.b,v7.2.p,v6.kind,v6.name,v6.n,v6.scopes,v6.kids) ⟨by first | omega | (dsimp only;omega),F8⟩
 clear F6
 rintro ⟨fu,g11,g12,g13,g14,g15,g16,g17⟩ ⟨hl18,F7⟩
 dsimp only at hl18 F7 ⊢
 obtain _ | fu:=fu
 · rw [zcE] at F7;cases F7
 rw [zcE] at F7
 refine zb (za ?_)
 refine zI yA32 yS32 ?_
 obtain ⟨v19,V19,F8⟩:=zc F7
 refine zY [(9300,2037)] [] _ _ (zhK fu _ _ V19) ?_
 refine s_mv ?_
 iterate 3 refine zbf ?_
 iterate 3 refine s_as ?_
 refine zf (zd ?_)
 refine awp_seqJ (α:=Nat × (List Form) × (List Rule)) [9,10,41,42,43,44,45,46,47,48,49,50,51,52,53] [2037,6010] [2050,7010] [6010] (fun a=>[(9,.t (.sl (a.2.1.map Form.row))),(10,.ar 6010)]) (fun a=>[(2037,.dead),(6010,.arr (a.2.2.map Rule.row) 37 false)]) (fun a=>a.1≤fu∧zdp a.1 v2 v3 g11 g12 a.2.1 a.2.2=some r) (by rfl) (fun _=>rfl) (zbM hC rfl) (by repeat (first | exact z6 rfl | refine zaj rfl ?_ | refine zP rfl ?_)) (by repeat (first | exact zax | exact z9 rfl | refine zak rfl ?_ | refine zQ rfl ?_)) ?_ ?_
 refine zb (za ?_)
 refine s_mv ?_
 refine zaY ?_
 refine zf (zd ?_)
 refine zm F8 ?_ ?_<;>intro C20 F9
 refine awp_kill 2037 rfl ?_
 refine za ?_
 refine s_mv ?_
 obtain ⟨v21,V21,F10⟩:=zc F9
 refine zK (rL rS) V21 rfl yE83 ?_
 refine zu yA51 ?_
 obtain ⟨v22,V22,F11⟩:=zc F10
 refine zK rS V22 rfl yE51 ?_
 refine zu yA9 ?_
 obtain ⟨v23,V23,F12⟩:=zc F11
 refine zv [] (zfW fu _ _ V23) ?_
 obtain ⟨v24,V24,F13⟩:=zc F12
 refine zY [(9300,2050)] [] _ _ (zhK fu _ _ V24) ?_
 refine s_mv ?_
 iterate 3 refine zbf ?_
 refine s_as ?_
 refine s_as ?_
 refine zf ?_
 exact s_join (fu,v24.1,v24.2.1) [(6010,2050)] ⟨by first | omega | (dsimp only;omega),F13⟩ (by repeat (first | exact trivial | refine hasR_cons (by conv=>lhs;whnf) (by rfl) rfl ?_)) (by repeat (first | exact trivial | refine hasQ_cons (by conv=>lhs;whnf) (by rfl) rfl ?_))
 refine zcZ 10 2037 7010 (by conv=>lhs;whnf) (by conv=>lhs;whnf) rfl ?_
 refine zi ?_
 exact s_join (fu,v19.1,v19.2.1) [(6010,7010)] ⟨by first | omega | (dsimp only;omega),F9⟩ (by repeat (first | exact trivial | refine hasR_cons (by conv=>lhs;whnf) (by rfl) rfl ?_)) (by repeat (first | exact trivial | refine hasQ_cons (by conv=>lhs;whnf) (by rfl) rfl ?_))
 clear F8
 rintro ⟨fu,g25,g26⟩ ⟨hl27,F9⟩
 dsimp only at hl27 F9 ⊢
 obtain _ | fu:=fu
 · rw [zdp] at F9;cases F9
 rw [zdp] at F9
 refine zb (za ?_)
 refine s_mv ?_
 refine s_mv ?_
 obtain ⟨v28,V28,F10⟩:=zc F9
 refine zK (rL rS) V28 rfl yE83 ?_
 refine zu yA51 ?_
 obtain ⟨v29,V29,F11⟩:=zc F10
 refine zK rS V29 rfl yE51 ?_
 refine zu yA9 ?_
 obtain ⟨v30,V30,F12⟩:=zc F11
 refine zv [] (zfW fu _ _ V30) ?_
 refine zU yZ32 ?_
 refine zac yS32 ?_
 refine zf (zd (zb (zb (za ?_))))
 refine s_mv ?_
 obtain ⟨v31,V31,F13⟩:=zc F12
 refine zY [(9000,14)] [] _ _ (zaA fu _ _ _ V31) ?_
 refine zf (zd (zl (zb (za ?_))))
 refine s_eq ?_
 refine s_as ?_
 refine zf (zd ?_)
 refine zm F13 ?_ ?_<;>intro C32 F14
 refine za ?_
 iterate 3 refine s_mv ?_
 refine zC yU83 ?_
 obtain ⟨v33,V33,F15⟩:=zc F14
 refine zY [(9000,14)] [] _ _ (zaA fu _ _ _ V33) ?_
 obtain ⟨v34,V34,F16⟩:=zc F15
 refine zK (rL rS) V34 rfl yE83 ?_
 refine zu yA51 ?_
 obtain ⟨v35,V35,F17⟩:=zc F16
 refine zK rS V35 rfl yE51 ?_
 refine zu yA9 ?_
 obtain ⟨v36,V36,F18⟩:=zc F17
 refine zv [] (zfW fu _ _ V36) ?_
 refine zac yS32 ?_
 refine zf (zW (zd (zb ?_)))
 refine zO yMix (by kernel_rfl) ?_
 refine s_mv ?_
 refine s_mv ?_
 refine zI yA32 yS32 ?_
 refine s_as ?_
 refine s_as ?_
 refine zac yS32 ?_
 refine zae (by kernel_rfl) ?_
 refine zd ?_
 refine zcZ 3 6010 9300 (by conv=>lhs;whnf) (by conv=>lhs;whnf) rfl ?_
 refine zh (zn ?_)
 cases F18
 exact z4 _ [] (by rw [Tryz.results28];exact (zai (by conv=>lhs;whnf) (zai (by conv=>lhs;whnf) (zat (by conv=>lhs;whnf) (by conv=>lhs;whnf) yA32 yS32 rfl zaf))))
 refine zb (za ?_)
 refine s_eq ?_
 refine s_as ?_
 refine zf (zd ?_)
 refine zm F14 ?_ ?_<;>intro C37 F15
 refine za ?_
 refine s_mv ?_
 refine s_mv ?_
 refine zI yA32 yS32 ?_
 obtain ⟨v38,V38,F16⟩:=zc F15
 refine zY [(9000,14)] [] _ _ (zfr fu _ _ _ V38) ?_
 obtain ⟨v39,V39,F17⟩:=zc F16
 refine zY [(9000,14)] [] _ _ (zfr fu _ _ _ V39) ?_
 refine zac yS32 ?_
 refine zf (zW (zd (zb ?_)))
 refine zO yMix (by kernel_rfl) ?_
 refine s_mv ?_
 refine s_mv ?_
 refine zI yA32 yS32 ?_
 refine s_as ?_
 refine s_as ?_
 refine zac yS32 ?_
 refine zae (by kernel_rfl) ?_
 refine zd ?_
 refine zcZ 3 6010 9300 (by conv=>lhs;whnf) (by conv=>lhs;whnf) rfl ?_
 refine zh (zn ?_)
 cases F17
 exact z4 _ [] (by rw [Tryz.results28];exact (zai (by conv=>lhs;whnf) (zai (by conv=>lhs;whnf) (zat (by conv=>lhs;whnf) (by conv=>lhs;whnf) yA32 yS32 rfl zaf))))
 refine zb (za ?_)
 refine s_eq ?_
 refine s_as ?_
 refine zf (zd ?_)
 refine zm F15 ?_ ?_<;>intro C40 F16
 refine za ?_
 refine s_mv ?_
 refine zI yA32 yS32 ?_
 obtain ⟨v41,V41,F17⟩:=zc F16
 refine zY [(9000,14)] [] _ _ (m_spec_l1Dress_ok fu _ _ _ V41) ?_
 refine zac yS32 ?_
 refine zf (zW (zd (zb ?_)))
 refine zO yMix (by kernel_rfl) ?_
 refine s_mv ?_
 refine s_mv ?_
 refine zI yA32 yS32 ?_
 refine s_as ?_
 refine s_as ?_
 refine zac yS32 ?_
 refine zae (by kernel_rfl) ?_
 refine zd ?_
 refine zcZ 3 6010 9300 (by conv=>lhs;whnf) (by conv=>lhs;whnf) rfl ?_
 refine zh (zn ?_)
 cases F17
 exact z4 _ [] (by rw [Tryz.results28];exact (zai (by conv=>lhs;whnf) (zai (by conv=>lhs;whnf) (zat (by conv=>lhs;whnf) (by conv=>lhs;whnf) yA32 yS32 rfl zaf))))
 refine zi (zW (zd (zb ?_)))
 refine zO yMix (by kernel_rfl) ?_
 refine s_mv ?_
 refine s_mv ?_
 refine zI yA32 yS32 ?_
 refine s_as ?_
 refine s_as ?_
 refine zac yS32 ?_
 refine zae (by kernel_rfl) ?_
 refine zd ?_
 refine zcZ 3 6010 9300 (by conv=>lhs;whnf) (by conv=>lhs;whnf) rfl ?_
 refine zh (zn ?_)
 cases F16
 exact z4 _ [] (by rw [Tryz.results28];exact (zai (by conv=>lhs;whnf) (zai (by conv=>lhs;whnf) (zat (by conv=>lhs;whnf) (by conv=>lhs;whnf) yA32 yS32 rfl zaf))))
def m_spec_BindsValid_AC (fuel:Nat):Prop:=∀ (x1:(List Bind)) (r:Bool),zeA fuel x1=some r→AC Tryz.prog 108 [.t (.sl (x1.map Bind.row))] noOb (.t (.sc (.bool r))) noOb
theorem m_spec_BindsValid_ok (fuel:Nat):m_spec_BindsValid_AC fuel:=by
 intro x1 r F0
 unfold zeA at F0
 refine AC_i [.t (.sc (.bool r))] Tryz.func108 rfl Tryz.ntmps108 ?_
 intro C hC
 refine zb (za ?_)
 refine s_as ?_
 refine zf (zd (zb (zb (za ?_))))
 refine s_as ?_
 refine zf (zd (zl ?_))
 refine zaK (β:=Int) [2,3,4,5,6,7,8,9,10,11,12,13,14,15,16,17,18,19,20,21,22,23,24,25,26,27,28,29,30,31,32,33,34,35,36,37,38,39,40,41,42,43,44,45,46,47,48,49,50,51,52,53,54,55,56,57,58,59,60,61,62,63,64,65,66,67,68,69,70,71,72,73,74,75] [] [] (fun a=>[(2,.t (.sc (.bool false))),(3,.t (.sc (.int .i64 a.2)))]) (fun a=>[]) (fun a=>a.1≤fuel∧zbv a.1 x1 a.2=some r) (fuel,0) ⟨Nat.le_refl _,F0⟩ ?_
 clear F0
 rintro ⟨fu,g1⟩ ⟨hl2,F1⟩
 dsimp only at hl2 F1 ⊢
 obtain _ | fu:=fu
 · rw [zbv] at F1;cases F1
 rw [zbv] at F1
 refine zb ?_
 refine zbb (α:=Nat × Bool) [5,6,7,8,9,10,11,12] [] [] (fun a=>[(12,.t (.sc (.bool a.2)))]) (fun a=>[]) (fun a=>a.1≤fu∧zbx a.1 x1 g1 a.2=some r) ?_ ?_
 refine za ?_
 refine s_mv ?_
 refine s_mv ?_
 refine zC yU30 ?_
 refine s_lt ?_
 refine s_mv ?_
 refine zp _ 9 F1 ?_ ?_<;>intro C3 F2
 refine s_mv ?_
 refine s_le ?_
 refine zA ?_
 refine zf ?_
 exact s_jn (fu,(decide (g1≤60))) ⟨by first | omega | (dsimp only;omega),F2⟩
 refine r_no rfl (r_no rfl ?_)
 refine zz ?_
 refine zf ?_
 exact s_jn (fu,false) ⟨by first | omega | (dsimp only;omega),F2⟩
 clear F1
 rintro ⟨fu,g4⟩ ⟨hl5,F2⟩
 dsimp only at hl5 F2 ⊢
 obtain _ | fu:=fu
 · rw [zbx] at F2;cases F2
 rw [zbx] at F2
 refine zm F2 ?_ ?_<;>intro C6 F3
 refine zi (zd (zb (zl (zb ?_))))
 refine zbb (α:=Nat × Bool) [15,16,17,18,19,20,21,22,23,24,25,26,27,28,29,30,31,32,33,34,35,36,37,38,39,40,41,42,43,44,45,46] [] [] (fun a=>[(46,.t (.sc (.bool a.2)))]) (fun a=>[]) (fun a=>a.1≤fu∧zaI a.1 x1 g1 a.2=some r) ?_ ?_
 refine za ?_
 refine s_mv ?_
 refine s_mv ?_
 obtain ⟨v7,V7,F4⟩:=zc F3
 refine zK Bind.row V7 (Bind.row_eq _) yE30 ?_
 refine s_fa yF117_0 ?_
 refine zu yA9 ?_
 obtain ⟨v8,V8,F5⟩:=zc F4
 refine zv [] (zhZ fu _ _ V8) ?_
 refine zaY ?_
 refine s_mv ?_
 refine zp _ 22 F5 ?_ ?_<;>intro C9 F6
 iterate 7 refine r_no rfl ?_
 refine zA ?_
 refine s_mv ?_
 iterate 6 refine r_no rfl ?_
 refine zA ?_
 refine s_mv ?_
 iterate 6 refine r_no rfl ?_
 refine zA ?_
 refine zf ?_
 exact s_jn (fu,true) ⟨by first | omega | (dsimp only;omega),F6⟩
 refine s_mv ?_
 refine s_mv ?_
 obtain ⟨v10,V10,F7⟩:=zc F6
 refine zK Bind.row V10 (Bind.row_eq _) yE30 ?_
 refine s_fa zhB ?_
 refine zu yA27 ?_
 obtain ⟨v11,V11,F8⟩:=zc F7
 refine zv [] (zii fu _ _ V11) ?_
 refine zaY ?_
 refine zz ?_
 refine s_mv ?_
 refine zp _ 31 F8 ?_ ?_<;>intro C12 F9
 iterate 6 refine r_no rfl ?_
 refine zA ?_
 refine s_mv ?_
 iterate 6 refine r_no rfl ?_
 refine zA ?_
 refine zf ?_
 exact s_jn (fu,true) ⟨by first | omega | (dsimp only;omega),F9⟩
 refine s_mv ?_
 refine s_mv ?_
 obtain ⟨v13,V13,F10⟩:=zc F9
 refine zK Bind.row V13 (Bind.row_eq _) yE30 ?_
 refine s_fa yF117_2 ?_
 refine zu yA3 ?_
 refine s_lt ?_
 refine zz ?_
 refine s_mv ?_
 refine zp _ 39 F10 ?_ ?_<;>intro C14 F11
 iterate 6 refine r_no rfl ?_
 refine zA ?_
 refine zf ?_
 exact s_jn (fu,true) ⟨by first | omega | (dsimp only;omega),F11⟩
 refine s_mv ?_
 refine s_mv ?_
 obtain ⟨v15,V15,F12⟩:=zc F11
 refine zK Bind.row V15 (Bind.row_eq _) yE30 ?_
 refine s_fa yF117_2 ?_
 refine zu yA3 ?_
 refine s_gt ?_
 refine zz ?_
 refine zf ?_
 exact s_jn (fu,(decide (999 < v15.id))) ⟨by first | omega | (dsimp only;omega),F12⟩
 clear F3
 rintro ⟨fu,g16⟩ ⟨hl17,F4⟩
 dsimp only at hl17 F4 ⊢
 obtain _ | fu:=fu
 · rw [zaI] at F4;cases F4
 rw [zaI] at F4
 refine zm F4 ?_ ?_<;>intro C18 F5
 refine zb (za ?_)
 refine s_as ?_
 refine zf (zd (zh (zg (zj (zg (zw (zj (zg (zn ?_)))))))))
 cases F5
 exact zk [] [] Tryz.results108
 refine zi (zd (zb (za ?_)))
 refine s_as ?_
 refine zf (zd (zl ?_))
 refine zaK (β:=Int) [2,4,47,48,49,50,51,52,53,54,55,56,57,58,59,60,61,62,63,64,65,66,67,68,69,70,71,72,73,74,75] [] [] (fun a=>[(2,.t (.sc (.bool false))),(4,.t (.sc (.int .i64 a.2)))]) (fun a=>[]) (fun a=>a.1≤fu∧zbu a.1 x1 g1 a.2=some r) (fu,0) ⟨Nat.le_refl _,F5⟩ ?_
 clear F5
 rintro ⟨fu,g19⟩ ⟨hl20,F6⟩
 dsimp only at hl20 F6 ⊢
 obtain _ | fu:=fu
 · rw [zbu] at F6;cases F6
 rw [zbu] at F6
 refine zb (zb (za ?_))
 refine s_mv ?_
 refine s_mv ?_
 refine s_lt ?_
 refine zf (zd ?_)
 refine zm F6 ?_ ?_<;>intro C21 F7
 refine zi (zd (zb (zl ?_)))
 refine zbb (α:=Nat × Bool) [52,53,54,55,56,57,58,59,60,61,62,63,64,65,66,67,68,69,70,71,72,73,74,75] [] [] (fun a=>[(75,.t (.sc (.bool a.2)))]) (fun a=>[]) (fun a=>a.1≤fu∧zbw a.1 x1 g1 g19 a.2=some r) ?_ ?_
 refine zO yMix (by kernel_rfl) ?_
 refine s_mv ?_
 refine s_mv ?_
 obtain ⟨v22,V22,F8⟩:=zc F7
 refine zK Bind.row V22 (Bind.row_eq _) yE30 ?_
 refine s_fa yF117_0 ?_
 refine zu yA9 ?_
 refine s_mv ?_
 refine s_mv ?_
 obtain ⟨v23,V23,F9⟩:=zc F8
 refine zK Bind.row V23 (Bind.row_eq _) yE30 ?_
 refine s_fa yF117_0 ?_
 refine zu yA9 ?_
 refine zhr ?_
 refine s_mv ?_
 refine zp _ 63 F9 ?_ ?_<;>intro C24 F10
 refine s_mv ?_
 refine s_mv ?_
 obtain ⟨v25,V25,F11⟩:=zc F10
 refine zK Bind.row V25 (Bind.row_eq _) yE30 ?_
 refine s_fa zhB ?_
 refine zu yA27 ?_
 refine s_mv ?_
 refine s_mv ?_
 obtain ⟨v26,V26,F12⟩:=zc F11
 refine zK Bind.row V26 (Bind.row_eq _) yE30 ?_
 refine s_fa zhB ?_
 refine zu yA27 ?_
 obtain ⟨v27,V27,F13⟩:=zc F12
 refine zv [] (m_spec_l1Ints_ok fu _ _ _ V27) ?_
 refine zA ?_
 refine zae (by kernel_rfl) ?_
 exact s_jn (fu,v27) ⟨by first | omega | (dsimp only;omega),F13⟩
 iterate 11 refine r_no rfl ?_
 refine zz ?_
 refine zae (by kernel_rfl) ?_
 exact s_jn (fu,false) ⟨by first | omega | (dsimp only;omega),F10⟩
 clear F7
 rintro ⟨fu,g28⟩ ⟨hl29,F8⟩
 dsimp only at hl29 F8 ⊢
 obtain _ | fu:=fu
 · rw [zbw] at F8;cases F8
 rw [zbw] at F8
 refine zm F8 ?_ ?_<;>intro C30 F9
 refine zb (za ?_)
 refine s_as ?_
 refine zf (zd (zh (zj (zg (zw (zj (zj (zg (zw (zj (zg (zn ?_))))))))))))
 cases F9
 exact zk [] [] Tryz.results108
 refine zi (zW (zd (za ?_)))
 refine s_mv ?_
 refine zJ rfl ?_
 refine s_as ?_
 refine zf ?_
 exact s_rn (fu,(w64 (g19+1))) ⟨by first | omega | (dsimp only;omega),F9⟩
 refine zy (zq (zo (zr (zW (zd (za ?_))))))
 refine s_mv ?_
 refine zJ rfl ?_
 refine s_as ?_
 refine zf ?_
 exact s_rn (fu,(w64 (g1+1))) ⟨by first | omega | (dsimp only;omega),F7⟩
 refine zy (zq (zo (zr (zd (zb (za ?_))))))
 refine s_mv ?_
 refine zC yU30 ?_
 refine s_le ?_
 refine s_as ?_
 refine zf (zd (zh (zn ?_)))
 cases F3
 exact zk [] [] Tryz.results108
def m_spec_l2Has_AC (fuel:Nat):Prop:=∀ (x1:(List Int)) (x2:Int) (r:Bool),zgM fuel x1 x2=some r→AC Tryz.prog 174 [.t (.sl (x1.map rI)),.t (.sc (.int .i64 x2))] noOb (.t (.sc (.bool r))) noOb
theorem m_spec_l2Has_ok (fuel:Nat):m_spec_l2Has_AC fuel:=by
 intro x1 x2 r F0
 unfold zgM at F0
 refine AC_i [.t (.sc (.bool r))] Tryz.func174 rfl Tryz.ntmps174 ?_
 intro C hC
 refine zb (za ?_)
 refine s_as ?_
 refine zf (zd (zb (zb (za ?_))))
 refine s_as ?_
 refine zf (zd (zl ?_))
 refine zaK (β:=Int) [4,5,6,7,8,9,10,11,12,13,14,15,16,17] [] [] (fun a=>[(5,.t (.sc (.int .i64 a.2)))]) (fun a=>[]) (fun a=>a.1≤fuel∧zdS a.1 x1 x2 a.2=some r∧0≤a.2) (fuel,0) ⟨Nat.le_refl _,F0,by simp⟩ ?_
 clear F0
 rintro ⟨fu,g1⟩ ⟨hl2,F1,hn_g1⟩
 dsimp only at hl2 F1 hn_g1 ⊢
 obtain _ | fu:=fu
 · rw [zdS] at F1;cases F1
 rw [zdS] at F1
 refine zb (zb (za ?_))
 refine s_mv ?_
 refine s_mv ?_
 refine zC yU27 ?_
 refine s_lt ?_
 refine zf (zd ?_)
 refine zm F1 ?_ ?_<;>intro C3 F2
 refine zM 0 (fun B4=>?_)
 refine zi (zd (zb (zl (zb (za ?_)))))
 refine s_mv ?_
 refine s_mv ?_
 obtain ⟨v5,V5,F3⟩:=zc F2
 refine zK rI V5 rfl yE27 ?_
 refine zu yA3 ?_
 refine s_mv ?_
 refine s_eq ?_
 refine zf (zd ?_)
 refine zm F3 ?_ ?_<;>intro C6 F4
 refine zb (za ?_)
 refine s_as ?_
 refine zf (zd (zh (zj (zg (zw (zj (zg (zn ?_))))))))
 cases F4
 exact zk [] [] Tryz.results174
 refine zi (zW (zd (za ?_)))
 refine s_mv ?_
 refine zJ (zas C3 B4 hn_g1) ?_
 refine s_as ?_
 refine zf ?_
 exact s_rn (fu,(g1+1)) ⟨by first | omega | (dsimp only;omega),F4,by first | omega | (dsimp only;omega)⟩
 refine zy (zq (zo (zr (zd (zb (za ?_))))))
 refine s_as ?_
 refine zf (zd (zh (zn ?_)))
 cases F2
 exact zk [] [] Tryz.results174
def m_spec_ScopesWithin_AC (fuel:Nat):Prop:=∀ (x1:(List Int)) (x2:(List Int)) (r:Bool),zcR fuel x1 x2=some r→AC Tryz.prog 163 [.t (.sl (x1.map rI)),.t (.sl (x2.map rI))] noOb (.t (.sc (.bool r))) noOb
theorem zha (fuel:Nat):m_spec_ScopesWithin_AC fuel:=by
 intro x1 x2 r F0
 unfold zcR at F0
 refine AC_i [.t (.sc (.bool r))] Tryz.func163 rfl Tryz.ntmps163 ?_
 intro C hC
 refine zb (za ?_)
 refine s_as ?_
 refine zf (zd (zb (zb (za ?_))))
 refine s_as ?_
 refine zf (zd (zl ?_))
 refine zaK (β:=Int) [4,5,6,7,8,9,10,11,12,13,14,15,16,17,18] [] [] (fun a=>[(5,.t (.sc (.int .i64 a.2)))]) (fun a=>[]) (fun a=>a.1≤fuel∧zbA a.1 x1 x2 a.2=some r∧0≤a.2) (fuel,0) ⟨Nat.le_refl _,F0,by simp⟩ ?_
 clear F0
 rintro ⟨fu,g1⟩ ⟨hl2,F1,hn_g1⟩
 dsimp only at hl2 F1 hn_g1 ⊢
 obtain _ | fu:=fu
 · rw [zbA] at F1;cases F1
 rw [zbA] at F1
 refine zb (zb (za ?_))
 refine s_mv ?_
 refine s_mv ?_
 refine zC yU27 ?_
 refine s_lt ?_
 refine zf (zd ?_)
 refine zm F1 ?_ ?_<;>intro C3 F2
 refine zM 0 (fun B4=>?_)
 refine zi (zd (zb (zl (zb (za ?_)))))
 iterate 3 refine s_mv ?_
 obtain ⟨v5,V5,F3⟩:=zc F2
 refine zK rI V5 rfl yE27 ?_
 refine zu yA3 ?_
 obtain ⟨v6,V6,F4⟩:=zc F3
 refine zv [] (m_spec_l2Has_ok fu _ _ _ V6) ?_
 refine zaY ?_
 refine zf (zd ?_)
 refine zm F4 ?_ ?_<;>intro C7 F5
 refine zb (za ?_)
 refine s_as ?_
 refine zf (zd (zh (zj (zg (zw (zj (zg (zn ?_))))))))
 cases F5
 exact zk [] [] Tryz.results163
 refine zi (zW (zd (za ?_)))
 refine s_mv ?_
 refine zJ (zas C3 B4 hn_g1) ?_
 refine s_as ?_
 refine zf ?_
 exact s_rn (fu,(g1+1)) ⟨by first | omega | (dsimp only;omega),F5,by first | omega | (dsimp only;omega)⟩
 refine zy (zq (zo (zr (zd (zb (za ?_))))))
 refine s_as ?_
 refine zf (zd (zh (zn ?_)))
 cases F2
 exact zk [] [] Tryz.results163
def m_spec_l3Fitting_AC (fuel:Nat):Prop:=∀ (x1:(List Bind)) (x2:Form) (r:(List Int)),zeT fuel x1 x2=some r→AC Tryz.prog 162 [.t (.sl (x1.map Bind.row)),.ag [.t (.sc (.int .i64 x2.kind)),.t (.sc (.str x2.name)),.t (.sc (.int .i64 x2.n)),.t (.sl (x2.scopes.map rI)),.t (.sl (x2.kids.map Form.row))]] noOb (.t (.sl (r.map rI))) noOb
theorem m_spec_l3Fitting_ok (fuel:Nat):m_spec_l3Fitting_AC fuel:=by
 intro x1 x2 r F0
 unfold zeT at F0
 refine AC_i [.t (.sl (r.map rI))] Tryz.func162 rfl Tryz.ntmps162 ?_
 intro C hC
 refine zb (za ?_)
 refine zaL ?_
 refine s_as ?_
 refine zf (zd (zb (za ?_)))
 refine s_bs rI ([]:List Int) yP27 yR3 ?_
 refine s_as ?_
 refine zf (zd (zb (zb (za ?_))))
 refine s_as ?_
 refine zf (zd (zl ?_))
 refine zcZ 5 7 5020 (by conv=>lhs;whnf) (by conv=>lhs;whnf) rfl ?_
 refine zal [5,6,8,9,10,11,12,13,14,15,16,17,18,19,20,21,22,23,24,25,26,27,28,29,30,31,32,33,34,35] [5020] [34,35] [5020] (fun a:Nat × (List Int) × Int=>a.1) (fun a:Nat × (List Int) × Int=>[(5,.ar 5020),(6,.t (.sc (.int .i64 a.2.2)))]) (fun a:Nat × (List Int) × Int=>[(5020,.arr (a.2.1.map rI) 3 true)]) (fun a:Nat × (List Int) × Int=>a.1≤fuel∧zbi a.1 x1 x2 a.2.1 a.2.2=some r∧0≤a.2.2) (fuel,([]:List Int),0) ⟨Nat.le_refl _,F0,by simp⟩ (by rfl) (by rfl) (fun _=>rfl) (zH (by conv=>lhs;whnf) (by rfl) (zH (by conv=>lhs;whnf) (by rfl) zaV)) (zL (by conv=>lhs;whnf) (by rfl) zaG) (zbM hC rfl) (by repeat (first | exact z6 rfl | refine zaj rfl ?_ | refine zP rfl ?_)) (by repeat (first | exact zax | exact z9 rfl | refine zak rfl ?_ | refine zQ rfl ?_)) ?_
 clear F0
 rintro ⟨fu,g1,g2⟩ ⟨hl3,F1,hn_g2⟩
 dsimp only at hl3 F1 hn_g2 ⊢
 obtain _ | fu:=fu
 · rw [zbi] at F1;cases F1
 rw [zbi] at F1
 refine zb (zb (za ?_))
 refine s_mv ?_
 refine s_mv ?_
 refine zC yU30 ?_
 refine s_lt ?_
 refine zf (zd ?_)
 refine zm F1 ?_ ?_<;>intro C4 F2
 refine zM 0 (fun B5=>?_)
 refine zi (zd (zb (zl ?_)))
 refine zbb (α:=Nat × Bool) [14,15,16,17,18,19,20,21,22,23,24,25,26,27,28,29,30,31] [] [] (fun a=>[(31,.t (.sc (.bool a.2)))]) (fun a=>[]) (fun a=>a.1≤fu∧zcc a.1 x1 x2 g1 g2 a.2=some r) ?_ ?_
 refine zO yMix (by kernel_rfl) ?_
 refine s_mv ?_
 refine s_mv ?_
 obtain ⟨v6,V6,F3⟩:=zc F2
 refine zK Bind.row V6 (Bind.row_eq _) yE30 ?_
 refine s_fa yF117_0 ?_
 refine zu yA9 ?_
 refine s_fa zcm ?_
 refine zu yA9 ?_
 refine zhr ?_
 refine s_mv ?_
 refine zp _ 22 F3 ?_ ?_<;>intro C7 F4
 refine s_mv ?_
 refine s_mv ?_
 obtain ⟨v8,V8,F5⟩:=zc F4
 refine zK Bind.row V8 (Bind.row_eq _) yE30 ?_
 refine s_fa zhB ?_
 refine zu yA27 ?_
 refine s_fa zf3 ?_
 refine zu yA27 ?_
 obtain ⟨v9,V9,F6⟩:=zc F5
 refine zv [] (zha fu _ _ _ V9) ?_
 refine zA ?_
 refine zae (by kernel_rfl) ?_
 exact s_jn (fu,v9) ⟨by first | omega | (dsimp only;omega),F6⟩
 iterate 8 refine r_no rfl ?_
 refine zz ?_
 refine zae (by kernel_rfl) ?_
 exact s_jn (fu,false) ⟨by first | omega | (dsimp only;omega),F4⟩
 clear F2
 rintro ⟨fu,g10⟩ ⟨hl11,F3⟩
 dsimp only at hl11 F3 ⊢
 obtain _ | fu:=fu
 · rw [zcc] at F3;cases F3
 rw [zcc] at F3
 refine zm F3 ?_ ?_<;>intro C12 F4
 refine za ?_
 refine s_mv ?_
 refine s_mv ?_
 refine s_bs rI [g2] yP27 yR3 ?_
 obtain ⟨hk13,F5⟩:=zad F4
 refine zek rI (fun _=>rfl) hk13 yP27 ?_
 refine s_as ?_
 refine zf (zW (zd (za ?_)))
 refine s_mv ?_
 refine zJ (zas C4 B5 hn_g2) ?_
 refine s_as ?_
 refine zf ?_
 exact s_rn (fu,(g1++[g2]),(g2+1)) ⟨by first | omega | (dsimp only;omega),F5,by first | omega | (dsimp only;omega)⟩ [(5020,35)]
 refine zi (zW (zd (za ?_)))
 refine s_mv ?_
 refine zJ (zas C4 B5 hn_g2) ?_
 refine s_as ?_
 refine zf ?_
 exact s_rn (fu,g1,(g2+1)) ⟨by first | omega | (dsimp only;omega),F4,by first | omega | (dsimp only;omega)⟩
 refine zy (zq (zo (zr (zd (zb (za ?_))))))
 refine s_mv ?_
 refine s_as ?_
 refine zf (zd (zh (zn ?_)))
 cases F2
 exact zk [] [5020] Tryz.results162
def m_spec_l3Find_AC (fuel:Nat):Prop:=∀ (x1:(List Bind)) (x2:Form) (r:(Int × Int)),zfU fuel x1 x2=some r→AC Tryz.prog 144 [.t (.sl (x1.map Bind.row)),.ag [.t (.sc (.int .i64 x2.kind)),.t (.sc (.str x2.name)),.t (.sc (.int .i64 x2.n)),.t (.sl (x2.scopes.map rI)),.t (.sl (x2.kids.map Form.row))]] noOb (.tp [.t (.sc (.int .i64 r.1)),.t (.sc (.int .i64 r.2))]) noOb
theorem m_spec_l3Find_ok (fuel:Nat):m_spec_l3Find_AC fuel:=by
 intro x1 x2 r F0
 unfold zfU at F0
 refine AC_i [.t (.sc (.int .i64 r.1)),.t (.sc (.int .i64 r.2))] Tryz.func144 rfl Tryz.ntmps144 ?_
 intro C hC
 refine zb (za ?_)
 refine zaL ?_
 refine s_as ?_
 refine s_as ?_
 refine zf (zd (zb (za ?_)))
 refine s_mv ?_
 refine zI yA32 yS32 ?_
 obtain ⟨v1,V1,F1⟩:=zc F0
 refine zv [] (m_spec_l3Fitting_ok fuel _ _ _ V1) ?_
 refine s_as ?_
 refine zf (zd (zb (zb (za ?_))))
 refine s_as ?_
 refine zf (zd (zl ?_))
 refine zaK (β:=Int) [4,5,7,8,9,13,14,15,16,17,18,19,20,21,22,23,24,25,26,27,28,29,30,31,32,33,34,35,36,37,38,39,40,41,42,43,44,45,46,47,48,49] [] [] (fun a=>[(7,.t (.sc (.int .i64 a.2)))]) (fun a=>[]) (fun a=>a.1≤fuel∧zcH a.1 x1 v1 a.2=some r∧0≤a.2) (fuel,0) ⟨Nat.le_refl _,F1,by simp⟩ ?_
 clear F1
 rintro ⟨fu,g2⟩ ⟨hl3,F2,hn_g2⟩
 dsimp only at hl3 F2 hn_g2 ⊢
 obtain _ | fu:=fu
 · rw [zcH] at F2;cases F2
 rw [zcH] at F2
 refine zb (zb (za ?_))
 refine s_mv ?_
 refine s_mv ?_
 refine zC yU27 ?_
 refine s_lt ?_
 refine zf (zd ?_)
 refine zm F2 ?_ ?_<;>intro C4 F3
 refine zM 6 (fun B5=>?_)
 refine zi (zd (zb (zl (zb (za ?_)))))
 refine s_as ?_
 refine zf (zd ?_)
 refine zbb (α:=Nat × Bool) [8,9,19,20,21,22,23,24,25,26,27,28,29,30,31,32,33,34,35,36,37,38,39,40,41,42,43,44] [] [] (fun a=>[(8,.t (.sc (.bool a.2)))]) (fun a=>[]) (fun a=>a.1≤fu∧zd5 a.1 x1 v1 g2 a.2=some r) ?_ ?_
 refine zb (za ?_)
 refine s_as ?_
 refine zf (zd (zl ?_))
 refine zaK (β:=Bool × Int) [8,9,19,20,21,22,23,24,25,26,27,28,29,30,31,32,33,34,35,36,37,38,39,40,41,42,43,44] [] [] (fun a=>[(8,.t (.sc (.bool a.2.1))),(9,.t (.sc (.int .i64 a.2.2)))]) (fun a=>[]) (fun a=>a.1≤fu∧zcG a.1 x1 v1 g2 a.2.1 a.2.2=some r∧0≤a.2.2) (fu,true,0) ⟨Nat.le_refl _,F3,by simp⟩ ?_
 clear F3
 rintro ⟨fu,g6,g7⟩ ⟨hl8,F4,hn_g7⟩
 dsimp only at hl8 F4 hn_g7 ⊢
 obtain _ | fu:=fu
 · rw [zcG] at F4;cases F4
 rw [zcG] at F4
 refine zb (zb (za ?_))
 refine s_mv ?_
 refine s_mv ?_
 refine zC yU27 ?_
 refine s_lt ?_
 refine zf (zd ?_)
 refine zm F4 ?_ ?_<;>intro C9 F5
 refine zi (zd ?_)
 refine zbb (α:=Nat × Bool) [8,25,26,27,28,29,30,31,32,33,34,35,36,37,38,39,40,41,42,43,44] [] [] (fun a=>[(8,.t (.sc (.bool a.2)))]) (fun a=>[]) (fun a=>a.1≤fu∧zdr a.1 x1 v1 g2 g7 a.2=some r) ?_ ?_
 refine zl ?_
 refine zO yMix (by kernel_rfl) ?_
 refine s_mv ?_
 refine s_mv ?_
 refine zp _ 26 F5 ?_ ?_<;>intro C10 F6
 iterate 3 refine s_mv ?_
 obtain ⟨v11,V11,F7⟩:=zc F6
 refine zK rI V11 rfl yE27 ?_
 refine zu yA3 ?_
 obtain ⟨v12,V12,F8⟩:=zc F7
 refine zK Bind.row V12 (Bind.row_eq _) yE30 ?_
 refine s_fa zhB ?_
 refine zu yA27 ?_
 iterate 3 refine s_mv ?_
 obtain ⟨v13,V13,F9⟩:=zc F8
 refine zK rI V13 rfl yE27 ?_
 refine zu yA3 ?_
 obtain ⟨v14,V14,F10⟩:=zc F9
 refine zK Bind.row V14 (Bind.row_eq _) yE30 ?_
 refine s_fa zhB ?_
 refine zu yA27 ?_
 obtain ⟨v15,V15,F11⟩:=zc F10
 refine zv [] (zha fu _ _ _ V15) ?_
 refine zA ?_
 refine s_as ?_
 refine zae (by kernel_rfl) ?_
 refine zW ?_
 exact s_jn (fu,v15) ⟨by first | omega | (dsimp only;omega),F11⟩
 iterate 17 refine r_no rfl ?_
 refine zz ?_
 refine s_as ?_
 refine zae (by kernel_rfl) ?_
 refine zW ?_
 exact s_jn (fu,false) ⟨by first | omega | (dsimp only;omega),F6⟩
 clear F5
 rintro ⟨fu,g16⟩ ⟨hl17,F6⟩
 dsimp only at hl17 F6 ⊢
 obtain _ | fu:=fu
 · rw [zdr] at F6;cases F6
 rw [zdr] at F6
 refine za ?_
 refine s_mv ?_
 refine zJ (zas C9 B5 hn_g7) ?_
 refine s_as ?_
 refine zf ?_
 exact s_rn (fu,g16,(g7+1)) ⟨by first | omega | (dsimp only;omega),F6,by first | omega | (dsimp only;omega)⟩
 refine zy (zq (zo (zr ?_)))
 exact s_jn (fu,g6) ⟨by first | omega | (dsimp only;omega),F5⟩
 clear F3
 rintro ⟨fu,g18⟩ ⟨hl19,F4⟩
 dsimp only at hl19 F4 ⊢
 obtain _ | fu:=fu
 · rw [zd5] at F4;cases F4
 rw [zd5] at F4
 refine zb (za ?_)
 refine s_mv ?_
 refine zf (zd ?_)
 refine zm F4 ?_ ?_<;>intro C20 F5
 refine zb (za ?_)
 refine s_mv ?_
 refine s_mv ?_
 obtain ⟨v21,V21,F6⟩:=zc F5
 refine zK rI V21 rfl yE27 ?_
 refine zu yA3 ?_
 refine s_as ?_
 refine s_as ?_
 refine zf (zd (zh (zj (zg (zw (zj (zg (zn ?_))))))))
 cases F6
 exact zk [] [] Tryz.results144
 refine zi (zW (zd (za ?_)))
 refine s_mv ?_
 refine zJ (zas C4 B5 hn_g2) ?_
 refine s_as ?_
 refine zf ?_
 exact s_rn (fu,(g2+1)) ⟨by first | omega | (dsimp only;omega),F5,by first | omega | (dsimp only;omega)⟩
 refine zy (zq (zo (zr (zd (zb (zb (za ?_)))))))
 refine s_mv ?_
 refine zC yU27 ?_
 refine s_gt ?_
 refine zf (zd ?_)
 refine zm F3 ?_ ?_<;>intro C22 F4
 refine zM 6 (fun B23=>?_)
 refine zb (za ?_)
 refine s_as ?_
 refine s_as ?_
 refine zf (zd (zh (zg (zn ?_))))
 cases F4
 exact zk [] [] Tryz.results144
 refine zi (zd (zb (za ?_)))
 refine s_as ?_
 refine s_as ?_
 refine zf (zd (zh (zn ?_)))
 cases F4
 exact zk [] [] Tryz.results144
def m_spec_l3Same_AC (fuel:Nat):Prop:=∀ (x1:(List Bind)) (x2:Form) (x3:Form) (r:Bool),zgV fuel x1 x2 x3=some r→AC Tryz.prog 109 [.t (.sl (x1.map Bind.row)),.ag [.t (.sc (.int .i64 x2.kind)),.t (.sc (.str x2.name)),.t (.sc (.int .i64 x2.n)),.t (.sl (x2.scopes.map rI)),.t (.sl (x2.kids.map Form.row))],.ag [.t (.sc (.int .i64 x3.kind)),.t (.sc (.str x3.name)),.t (.sc (.int .i64 x3.n)),.t (.sl (x3.scopes.map rI)),.t (.sl (x3.kids.map Form.row))]] noOb (.t (.sc (.bool r))) noOb
theorem m_spec_l3Same_ok (fuel:Nat):m_spec_l3Same_AC fuel:=by
 intro x1 x2 x3 r F0
 unfold zgV at F0
 refine AC_i [.t (.sc (.bool r))] Tryz.func109 rfl Tryz.ntmps109 ?_
 intro C hC
 refine zb (za ?_)
 refine zaL ?_
 refine zaL ?_
 refine s_as ?_
 refine zf (zd (zb (za ?_)))
 refine s_mv ?_
 refine zI yA32 yS32 ?_
 obtain ⟨v1,V1,F1⟩:=zc F0
 refine zv [] (m_spec_l3Find_ok fuel _ _ _ V1) ?_
 refine s_mv ?_
 refine zbf ?_
 refine zbf ?_
 refine s_as ?_
 refine s_as ?_
 refine zf (zd (zb (za ?_)))
 refine s_mv ?_
 refine zI yA32 yS32 ?_
 obtain ⟨v2,V2,F2⟩:=zc F1
 refine zv [] (m_spec_l3Find_ok fuel _ _ _ V2) ?_
 refine s_mv ?_
 refine zbf ?_
 refine zbf ?_
 refine s_as ?_
 refine s_as ?_
 refine zf (zd (zb ?_))
 refine zbb (α:=Nat × Bool) [23,24,25,26,27,28,29] [] [] (fun a=>[(29,.t (.sc (.bool a.2)))]) (fun a=>[]) (fun a=>a.1≤fuel∧zdq a.1 x1 x2 x3 v1 v2 a.2=some r) ?_ ?_
 refine za ?_
 refine s_mv ?_
 refine s_mv ?_
 refine s_ne ?_
 refine s_mv ?_
 refine zp _ 26 F2 ?_ ?_<;>intro C3 F3
 refine r_no rfl (r_no rfl ?_)
 refine zA ?_
 refine zf ?_
 exact s_jn (fuel,true) ⟨by first | omega | (dsimp only;omega),F3⟩
 refine s_mv ?_
 refine s_eq ?_
 refine zz ?_
 refine zf ?_
 exact s_jn (fuel,(decide (v1.2=2))) ⟨by first | omega | (dsimp only;omega),F3⟩
 clear F2
 rintro ⟨fu,g4⟩ ⟨hl5,F3⟩
 dsimp only at hl5 F3 ⊢
 obtain _ | fu:=fu
 · rw [zdq] at F3;cases F3
 rw [zdq] at F3
 refine zm F3 ?_ ?_<;>intro C6 F4
 refine zb (za ?_)
 refine s_as ?_
 refine zf (zd (zh (zg (zn ?_))))
 cases F4
 exact zk [] [] Tryz.results109
 refine zi (zd (zb (zb (za ?_))))
 refine s_mv ?_
 refine s_eq ?_
 refine zf (zd ?_)
 refine zm F4 ?_ ?_<;>intro C7 F5
 refine zb (za ?_)
 refine s_fa zcm ?_
 refine zu yA9 ?_
 refine s_fa zcm ?_
 refine zu yA9 ?_
 refine zhr ?_
 refine s_as ?_
 refine zf (zd (zh (zg (zn ?_))))
 cases F5
 exact zk [] [] Tryz.results109
 refine zi (zd (zb ?_))
 refine zO yMix (by kernel_rfl) ?_
 refine s_mv ?_
 refine s_mv ?_
 obtain ⟨v8,V8,F6⟩:=zc F5
 refine zK Bind.row V8 (Bind.row_eq _) yE30 ?_
 refine s_fa yF117_2 ?_
 refine zu yA3 ?_
 refine s_mv ?_
 refine s_mv ?_
 obtain ⟨v9,V9,F7⟩:=zc F6
 refine zK Bind.row V9 (Bind.row_eq _) yE30 ?_
 refine s_fa yF117_2 ?_
 refine zu yA3 ?_
 refine s_eq ?_
 refine s_as ?_
 refine zae (by kernel_rfl) ?_
 refine zd (zh (zn ?_))
 cases F7
 exact zk [] [] Tryz.results109
def m_spec_l4Row_AC (fuel:Nat):Prop:=∀ (x1:Form) (x2:(List Form)) (x3:(List (List Hit))) (r:(List Hit)),zhu fuel x1 x2 x3=some r→AC Tryz.prog 145 [.ag [.t (.sc (.int .i64 x1.kind)),.t (.sc (.str x1.name)),.t (.sc (.int .i64 x1.n)),.t (.sl (x1.scopes.map rI)),.t (.sl (x1.kids.map Form.row))],.t (.sl (x2.map Form.row)),.t (.sl (x3.map (rL Hit.row)))] noOb (.t (.sl (r.map Hit.row))) noOb
theorem m_spec_l4Row_ok (fuel:Nat):m_spec_l4Row_AC fuel:=by
 intro x1 x2 x3 r F0
 unfold zhu at F0
 refine AC_i [.t (.sl (r.map Hit.row))] Tryz.func145 rfl Tryz.ntmps145 ?_
 intro C hC
 refine zb (za ?_)
 refine zaL ?_
 refine s_as ?_
 refine zf (zd (zb (za ?_)))
 refine s_bs Hit.row ([]:List Hit) yP42 yR48 ?_
 refine s_as ?_
 refine zf (zd (zb (za ?_)))
 refine s_bs Form.row ([]:List Form) yP24 yR32 ?_
 refine zI yA32 yS32 ?_
 refine s_mv ?_
 obtain ⟨v1,V1,F1⟩:=zc F0
 refine zY [(9300,14),(9200,12017)] [] _ _ (zhD fuel _ _ _ _ V1) ?_
 refine s_as ?_
 refine zf (zd (zb (za ?_)))
 refine s_bs rI ([]:List Int) yP27 yR3 ?_
 refine zI yA32 yS32 ?_
 refine s_mv ?_
 obtain ⟨v2,V2,F2⟩:=zc F1
 refine zY [(9300,18),(9200,12021)] [] _ _ (zgU fuel _ _ _ _ _ V2) ?_
 refine s_as ?_
 refine zf (zd (zb (zb (za ?_))))
 refine s_as ?_
 refine zf (zd (zl ?_))
 refine zcZ 7 13 5020 (by conv=>lhs;whnf) (by conv=>lhs;whnf) rfl ?_
 refine zal [7,10,11,12,22,23,24,25,26,27,28,29,30,31,32,33,34,35,36,37,38,39,40,41,42,43,44,45,46,47,48,49,50,51,52,53,54,55,56,57,58,59] [5020] [11,58,59,5040] [5020] (fun a:Nat × (List Hit) × Int=>a.1) (fun a:Nat × (List Hit) × Int=>[(7,.ar 5020),(10,.t (.sc (.int .i64 a.2.2)))]) (fun a:Nat × (List Hit) × Int=>[(5020,.arr (a.2.1.map Hit.row) 48 true)]) (fun a:Nat × (List Hit) × Int=>a.1≤fuel∧zc7 a.1 x3 v1 v2 a.2.1 a.2.2=some r) (fuel,([]:List Hit),0) ⟨Nat.le_refl _,F2⟩ (by rfl) (by rfl) (fun _=>rfl) (zH (by conv=>lhs;whnf) (by rfl) (zH (by conv=>lhs;whnf) (by rfl) zaV)) (zL (by conv=>lhs;whnf) (by rfl) zaG) (zbM hC rfl) (by repeat (first | exact z6 rfl | refine zaj rfl ?_ | refine zP rfl ?_)) (by repeat (first | exact zax | exact z9 rfl | refine zak rfl ?_ | refine zQ rfl ?_)) ?_
 clear F2
 rintro ⟨fu,g3,g4⟩ ⟨hl5,F3⟩
 dsimp only at hl5 F3 ⊢
 obtain _ | fu:=fu
 · rw [zc7] at F3;cases F3
 rw [zc7] at F3
 refine zb (zb (za ?_))
 refine s_mv ?_
 refine s_mv ?_
 refine zg8 yU24 ?_
 refine s_lt ?_
 refine zf (zd ?_)
 refine zm F3 ?_ ?_<;>intro C6 F4
 refine ziq 8 12017 (fun B7=>?_)
 refine zi (zd (zb (zl (zb ?_))))
 refine zO yMix (by kernel_rfl) ?_
 refine s_mv ?_
 refine s_mv ?_
 obtain ⟨v8,V8,F5⟩:=zc F4
 refine zis Form.row V8 yE24 ?_
 refine s_lAN Form.row V8 (Form.row_eq _) yA32 yS32 ?_
 refine s_mv ?_
 refine s_mv ?_
 obtain ⟨v9,V9,F6⟩:=zc F5
 refine zis rI V9 yE27 ?_
 refine s_lA1 rI V9 rfl yA3 ?_
 refine zJ rfl ?_
 refine zgD yZ48 yL48 ?_
 refine zU yZ48 ?_
 refine zac yS48 ?_
 refine zae (by kernel_rfl) ?_
 refine zd (zb (zb (za ?_)))
 refine s_as ?_
 refine zf (zd (zl ?_))
 refine awp_ownB 11 5040 48 [.t (.sc (.int .i64 v8.kind)),.t (.sc (.str v8.name)),.t (.sc (.int .i64 v8.n)),.t (.sl (v8.scopes.map rI)),.t (.sl (v8.kids.map Form.row)),.t (.sc (.int .i64 (w64 (v9+1)))),.t (.sc (.int .i64 0)),.t (.sc (.str (⟨#[]⟩:ByteArray))),.t (.sc (.int .i64 0)),.nl,.nl,.ar 5040] yI48.choose_spec ?_
 refine zal [12,38,39,40,41,42,43,44,45,46,47,48,49,50,51,52,53,54,55] [11,5040] [53,54] [5040] (fun a:Nat × Int × (List Hit)=>a.1) (fun a:Nat × Int × (List Hit)=>[(12,.t (.sc (.int .i64 a.2.1)))]) (fun a:Nat × Int × (List Hit)=>[(11,.box [.t (.sc (.int .i64 v8.kind)),.t (.sc (.str v8.name)),.t (.sc (.int .i64 v8.n)),.t (.sl (v8.scopes.map rI)),.t (.sl (v8.kids.map Form.row)),.t (.sc (.int .i64 (w64 (v9+1)))),.t (.sc (.int .i64 0)),.t (.sc (.str (⟨#[]⟩:ByteArray))),.t (.sc (.int .i64 0)),.nl,.nl,.ar 5040]),(5040,.arr (a.2.2.map Hit.row) 48 true)]) (fun a:Nat × Int × (List Hit)=>a.1≤fu∧zc6 a.1 x3 v1 v2 g3 g4 v8 v9 a.2.1 a.2.2=some r∧0≤a.2.1) (fu,0,([]:List Hit)) ⟨Nat.le_refl _,F6,by simp⟩ (by rfl) (by rfl) (fun _=>rfl) (zH (by conv=>lhs;whnf) (by rfl) zaV) (zL (by conv=>lhs;whnf) (by rfl) (zL (by conv=>lhs;whnf) (by rfl) zaG)) (zbM hC rfl) (by repeat (first | exact z6 rfl | refine zaj rfl ?_ | refine zP rfl ?_)) (by repeat (first | exact zax | exact z9 rfl | refine zak rfl ?_ | refine zQ rfl ?_)) ?_
 clear F6
 rintro ⟨fu,g10,g11⟩ ⟨hl12,F7,hn_g10⟩
 dsimp only at hl12 F7 hn_g10 ⊢
 obtain _ | fu:=fu
 · rw [zc6] at F7;cases F7
 rw [zc6] at F7
 refine zb (zb (za ?_))
 refine s_mv ?_
 refine s_mv ?_
 refine zC yU142 ?_
 refine s_lt ?_
 refine zf (zd ?_)
 refine zm F7 ?_ ?_<;>intro C13 F8
 refine zM 2 (fun B14=>?_)
 refine zi (zd (zb (zl ?_)))
 refine zO yMix (by kernel_rfl) ?_
 refine s_fa ziw ?_
 refine zu yA42 ?_
 refine s_mv ?_
 refine s_mv ?_
 obtain ⟨v15,V15,F9⟩:=zc F8
 refine zK (rL Hit.row) V15 rfl yE142 ?_
 refine zu yA42 ?_
 refine s_mv ?_
 obtain ⟨v16,V16,F10⟩:=zc F9
 refine zK Hit.row V16 (Hit.row_eq _) yE42 ?_
 refine zam yA48 yS48 ?_
 refine s_bs Hit.row [v16] yP42 yR48 ?_
 obtain ⟨hk17,F11⟩:=zad F10
 refine zek Hit.row (fun y=>Hit.row_len y) hk17 yP42 ?_
 refine s_fa ziw ?_
 refine zia yS42 ?_
 refine zae (by kernel_rfl) ?_
 refine zW (zd (za ?_))
 refine s_mv ?_
 refine zJ (zas C13 B14 hn_g10) ?_
 refine s_as ?_
 refine zf ?_
 exact s_rn (fu,(g10+1),(g11++[v16])) ⟨by first | omega | (dsimp only;omega),F11,by first | omega | (dsimp only;omega)⟩ [(5040,54)]
 refine zy (zq (zo (zr (zd (za ?_)))))
 refine s_mv ?_
 refine zI yA48 yS48 ?_
 refine s_bs Hit.row [(Hit.mk v8 (w64 (v9+1)) (Form.mk 0 (⟨#[]⟩:ByteArray) 0 ([]:List Int) ([]:List Form)) g11)] yP42 yR48 ?_
 obtain ⟨hk18,F9⟩:=zad F8
 refine zek Hit.row (fun y=>Hit.row_len y) hk18 yP42 ?_
 refine s_as ?_
 refine zf (zW (zd (za ?_)))
 refine s_mv ?_
 refine zJ rfl ?_
 refine s_as ?_
 refine zf ?_
 exact s_rn (fu,(g3++[(Hit.mk v8 (w64 (v9+1)) (Form.mk 0 (⟨#[]⟩:ByteArray) 0 ([]:List Int) ([]:List Form)) g11)]),(w64 (g4+1))) ⟨by first | omega | (dsimp only;omega),F9⟩ [(5020,59)]
 refine zy (zq (zo (zr (zd (zb (za ?_))))))
 refine s_mv ?_
 refine s_as ?_
 refine zf (zd (zh (zn ?_)))
 cases F4
 exact zk [] [5020] Tryz.results145
end Go.Abs
