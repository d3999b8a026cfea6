/- A part of the proof: what the functions that the law calls answer, as pure values. -/
import Derived.Test.YtcebadpiebamdaaGreatK006dda84d553
import Derived.Test.YtcebadpiebamdaaGreatK863b9396a6d1
import Derived.Test.YtcebadpiebamdaaGreatK4288d3e3b386
import Derived.Test.YtcebadpiebamdaaGreatK6c9600c4ffb9
import Derived.Test.YtcebadpiebamdaaGreatK0c09c3f6594f
set_option linter.unusedSimpArgs false
set_option linter.unusedVariables false
set_option maxRecDepth 100000
set_option maxHeartbeats 4000000
namespace Go.Abs
open Go.Proofs
theorem m_laws_markFormS_D_all (fuel:Nat):zdk fuel:=by
 induction fuel using Nat.strongRecOn with
 | _ N ih =>
   cases N with
   | zero=>exact (by intro x1 x2 r h;rw [zax] at h;cases h)
   | succ fu=>exact m_laws_markFormS_D_st fu (fun k hk=>(ih k (by omega)))
theorem zdj (fuel:Nat):zdk fuel:=(m_laws_markFormS_D_all fuel)
def m_laws_markForm_D_AC (fuel:Nat):Prop:=∀ (x1:Form) (x2:Int) (r:(Int × (List Int) × (List Form))),zdH fuel x1 x2=some r→AC Tryz.prog 19 [.ag [.t (.sc (.int .i64 x1.kind)),.t (.sc (.str x1.name)),.t (.sc (.int .i64 x1.n)),.ar 9303,.ar 9304],.t (.sc (.int .i64 x2))] (objs [(9303,.arr (x1.scopes.map rI) 3 true),(9304,.dar (x1.kids.map (Form.rowD 3 37)) 37)]) (.t (.sc (.int .i64 r.1))) (objs [(9303,.arr (r.2.1.map rI) 3 true),(9304,.dar (r.2.2.map (Form.rowD 3 37)) 37)])
theorem zgf (fuel:Nat):m_laws_markForm_D_AC fuel:=by
 intro x1 x2 r F0
 unfold zdH at F0
 refine AC_i [.t (.sc (.int .i64 r.1))] Tryz.func19 rfl Tryz.ntmps19 ?_
 intro C hC
 refine zb (za ?_)
 refine zbo ?_
 refine s_as ?_
 refine zf (zd (zb (za ?_)))
 refine s_fa zdR ?_
 refine zq yA23 ?_
 refine s_mv ?_
 obtain ⟨v1,V1,F1⟩:=zc F0
 refine zT [(9300,9303)] [] _ _ (zcQ fuel _ _ _ V1) ?_
 refine s_as ?_
 refine zf (zd (zb (za ?_)))
 refine s_fa zJ ?_
 refine zq yA35 ?_
 refine s_mv ?_
 obtain ⟨v2,V2,F2⟩:=zc F1
 refine zT [(9300,9304)] [] _ _ (zdj fuel _ _ _ V2) ?_
 refine s_as ?_
 refine zf (zd (zb (za ?_)))
 refine s_mv ?_
 refine s_as ?_
 refine zf (zd (zh (zo ?_)))
 cases F2
 exact zk _ [] Tryz.results19
def zdx (fuel:Nat):Prop:=∀ (x1:(List Hit)) (x2:Int) (r:(Int × (List Hit))),zbS fuel x1 x2=some r→AC Tryz.prog 21 [.ar 9300,.t (.sc (.int .i64 x2))] (objs [(9300,.dar (x1.map (Hit.rowD 3 37 88)) 88)]) (.t (.sc (.int .i64 r.1))) (objs [(9300,.dar (r.2.map (Hit.rowD 3 37 88)) 88)])
theorem m_laws_markHitS_D_st (fu:Nat) (ih_m_laws_markHitS_D:∀ k,k≤fu→zdx k):zdx (fu+1):=by
 intro x1 x2 r F0
 rw [zbS] at F0
 refine AC_i [.t (.sc (.int .i64 r.1))] Tryz.func21 rfl Tryz.ntmps21 ?_
 intro C hC
 refine zb (za ?_)
 refine s_as ?_
 refine zf (zd (zb (zb (za ?_))))
 refine s_as ?_
 refine zf (zd (zl ?_))
 refine zaE (β:=Int × Int × (List Hit)) [1,5,6,7,8,9,10,11,12,13,14,15,16,17,18,19,20,21,22,23,24,25,26,27,28,29,30,31,32,33,34,35,36,37,38,39,40,41,42,43,44,45,46,47,48,49,50,51,52,53,54,55,56,57,58,59,60,61,62,63,64,65,66,67,68,69,70,71,72,73,74,75,76,77,78,79,80,81,82,83,84,85,86,87,88,89,90,91,92,93,94,95,96,97,98,99,100,101,102,103,104,105,106,107] [9300] [42,50,90,98,105] (fun a=>[(1,.t (.sc (.int .i64 a.2.1))),(5,.t (.sc (.int .i64 a.2.2.1)))]) (fun a=>[(9300,.dar (a.2.2.2.map (Hit.rowD 3 37 88)) 88)]) (fun a=>a.1≤fu∧zbL a.1  a.2.1 a.2.2.1 a.2.2.2=some r) (fu,x2,0,x1) ⟨Nat.le_refl _,F0⟩ ?_
 clear F0
 rintro ⟨fu,g1,g2,g3⟩ ⟨hl4,F1⟩
 dsimp only at hl4 F1 ⊢
 obtain _ | fu:=fu
 · rw [zbL] at F1;cases F1
 rw [zbL] at F1
 refine zb (zb (za ?_))
 refine s_mv ?_
 refine s_mv ?_
 refine s_lenD yU30 ?_
 refine s_lt ?_
 refine zf (zd ?_)
 refine zn F1 ?_ ?_<;>intro C5 F2
 refine zi (zd (zb (zl (zb (za ?_)))))
 iterate 3 refine s_mv ?_
 obtain ⟨v6,V6,F3⟩:=zc F2
 refine zgi (Hit.rowD 3 37 88) V6 yE30 ?_
 refine s_fa zgW ?_
 refine s_fa zcD ?_
 refine s_stC (q:=9300) (off:=0) (u:=.sc (.int .i64 g1)) (Hit.rowD 3 37 88) (Hit.mk (Form.mk g1 v6.name.name v6.name.n v6.name.scopes v6.name.kids) v6.depth v6.one v6.many) V6 (by rw [(Hit.rowDE _ _ _ _),(Hit.rowDE _ _ _ _)];rfl) yS3 yS88 (hw:=by rw [(Hit.rowDE _ _ _ _)];rfl) ?_
 refine zf (zd (zb (za ?_)))
 refine s_mv ?_
 refine zE rfl ?_
 refine s_as ?_
 refine zf (zd (zb (za ?_)))
 iterate 3 refine s_mv ?_
 obtain ⟨v7,V7,F4⟩:=zc F3
 refine zy [] (zbH fu _ _ V7) ?_
 obtain ⟨v8,V8,F5⟩:=zc F4
 refine zgi (Hit.rowD 3 37 88) V8 yE30 ?_
 refine s_fa zgW ?_
 refine s_fa zbC ?_
 refine s_stC (q:=9300) (off:=1) (u:=.sc (.str v7)) (Hit.rowD 3 37 88) (Hit.mk (Form.mk v8.name.kind v7 v8.name.n v8.name.scopes v8.name.kids) v8.depth v8.one v8.many) V8 (by rw [(Hit.rowDE _ _ _ _),(Hit.rowDE _ _ _ _)];rfl) yS9 yS88 (hw:=by rw [(Hit.rowDE _ _ _ _)];rfl) ?_
 refine zf (zd (zb (za ?_)))
 refine s_mv ?_
 refine zE rfl ?_
 refine s_as ?_
 refine zf (zd (zb (za ?_)))
 iterate 3 refine s_mv ?_
 obtain ⟨v9,V9,F6⟩:=zc F5
 refine zgi (Hit.rowD 3 37 88) V9 yE30 ?_
 refine s_fa zgW ?_
 refine s_fa zeg ?_
 refine s_stC (q:=9300) (off:=2) (u:=.sc (.int .i64 (w64 ((w64 (g1+1))+1)))) (Hit.rowD 3 37 88) (Hit.mk (Form.mk v9.name.kind v9.name.name (w64 ((w64 (g1+1))+1)) v9.name.scopes v9.name.kids) v9.depth v9.one v9.many) V9 (by rw [(Hit.rowDE _ _ _ _),(Hit.rowDE _ _ _ _)];rfl) yS3 yS88 (hw:=by rw [(Hit.rowDE _ _ _ _)];rfl) ?_
 refine zf (zd (zb (za ?_)))
 refine s_mv ?_
 refine zE rfl ?_
 refine s_as ?_
 refine zf (zd (zb (za ?_)))
 refine s_mv ?_
 refine s_mv ?_
 obtain ⟨v10,V10,F7⟩:=zc F6
 refine zgi (Hit.rowD 3 37 88) V10 yE30 ?_
 refine s_fa zgW ?_
 refine s_fa zdR ?_
 refine s_ldHA (Hit.rowD 3 37 88) rI v10.name.scopes plain_rI V10 yA23 yS88 (hw:=by rw [(Hit.rowDE _ _ _ _)];rfl) ?_
 refine s_mv ?_
 obtain ⟨v11,V11,F8⟩:=zc F7
 refine zT [(9300,42)] [] _ _ (zcQ fu _ _ _ V11) ?_
 refine s_as ?_
 refine zf (zd ?_)
 refine awp_jsA 9300 42 [.sc (.int .i64 v10.name.kind),.sc (.str v10.name.name),.sc (.int .i64 v10.name.n),.ow 3 (v11.2.map rI),.ow 37 (v10.name.kids.map (Form.rowD 3 37)),.sc (.int .i64 v10.depth),.sc (.int .i64 v10.one.kind),.sc (.str v10.one.name),.sc (.int .i64 v10.one.n),.ow 3 (v10.one.scopes.map rI),.ow 37 (v10.one.kids.map (Form.rowD 3 37)),.ow 88 (v10.many.map (Hit.rowD 3 37 88))] V10 (row:=(Hit.rowD 3 37 88)) (hj:=by rw [(Hit.rowDE _ _ _ _)];rfl) (hf:=by rw [(Hit.rowDE _ _ _ _)];rfl) ?_
 refine zgA 9300 (row:=(Hit.rowD 3 37 88)) (fs:=[.sc (.int .i64 v10.name.kind),.sc (.str v10.name.name),.sc (.int .i64 v10.name.n),.ow 3 (v11.2.map rI),.ow 37 (v10.name.kids.map (Form.rowD 3 37)),.sc (.int .i64 v10.depth),.sc (.int .i64 v10.one.kind),.sc (.str v10.one.name),.sc (.int .i64 v10.one.n),.ow 3 (v10.one.scopes.map rI),.ow 37 (v10.one.kids.map (Form.rowD 3 37)),.ow 88 (v10.many.map (Hit.rowD 3 37 88))]) (Hit.mk (Form.mk v10.name.kind v10.name.name v10.name.n v11.2 v10.name.kids) v10.depth v10.one v10.many) (Hit.rowDE _ _ _ _) ?_
 refine zb (za ?_)
 refine s_mv ?_
 refine s_mv ?_
 obtain ⟨v12,V12,F9⟩:=zc F8
 refine zgi (Hit.rowD 3 37 88) V12 yE30 ?_
 refine s_fa zgW ?_
 refine s_fa zJ ?_
 refine s_ldHD (Hit.rowD 3 37 88) (Form.rowD 3 37) v12.name.kids V12 yA35 yS88 (hw:=by rw [(Hit.rowDE _ _ _ _)];rfl) ?_
 refine s_mv ?_
 obtain ⟨v13,V13,F10⟩:=zc F9
 refine zT [(9300,50)] [] _ _ (zdj fu _ _ _ V13) ?_
 refine s_as ?_
 refine zf (zd ?_)
 refine awp_jsD 9300 50 [.sc (.int .i64 v12.name.kind),.sc (.str v12.name.name),.sc (.int .i64 v12.name.n),.ow 3 (v12.name.scopes.map rI),.ow 37 (v13.2.map (Form.rowD 3 37)),.sc (.int .i64 v12.depth),.sc (.int .i64 v12.one.kind),.sc (.str v12.one.name),.sc (.int .i64 v12.one.n),.ow 3 (v12.one.scopes.map rI),.ow 37 (v12.one.kids.map (Form.rowD 3 37)),.ow 88 (v12.many.map (Hit.rowD 3 37 88))] V12 (row:=(Hit.rowD 3 37 88)) (hj:=by rw [(Hit.rowDE _ _ _ _)];rfl) (hf:=by rw [(Hit.rowDE _ _ _ _)];rfl) ?_
 refine zgA 9300 (row:=(Hit.rowD 3 37 88)) (fs:=[.sc (.int .i64 v12.name.kind),.sc (.str v12.name.name),.sc (.int .i64 v12.name.n),.ow 3 (v12.name.scopes.map rI),.ow 37 (v13.2.map (Form.rowD 3 37)),.sc (.int .i64 v12.depth),.sc (.int .i64 v12.one.kind),.sc (.str v12.one.name),.sc (.int .i64 v12.one.n),.ow 3 (v12.one.scopes.map rI),.ow 37 (v12.one.kids.map (Form.rowD 3 37)),.ow 88 (v12.many.map (Hit.rowD 3 37 88))]) (Hit.mk (Form.mk v12.name.kind v12.name.name v12.name.n v12.name.scopes v13.2) v12.depth v12.one v12.many) (Hit.rowDE _ _ _ _) ?_
 refine zb (za ?_)
 iterate 3 refine s_mv ?_
 obtain ⟨v14,V14,F11⟩:=zc F10
 refine zgi (Hit.rowD 3 37 88) V14 yE30 ?_
 refine s_fa yF88_1 ?_
 refine s_stC (q:=9300) (off:=5) (u:=.sc (.int .i64 v13.1)) (Hit.rowD 3 37 88) (Hit.mk v14.name v13.1 v14.one v14.many) V14 (by rw [(Hit.rowDE _ _ _ _),(Hit.rowDE _ _ _ _)];rfl) yS3 yS88 (hw:=by rw [(Hit.rowDE _ _ _ _)];rfl) ?_
 refine zf (zd (zb (za ?_)))
 refine s_mv ?_
 refine zE rfl ?_
 refine s_as ?_
 refine zf (zd (zb (za ?_)))
 iterate 3 refine s_mv ?_
 obtain ⟨v15,V15,F12⟩:=zc F11
 refine zgi (Hit.rowD 3 37 88) V15 yE30 ?_
 refine s_fa zgV ?_
 refine s_fa zcD ?_
 refine s_stC (q:=9300) (off:=6) (u:=.sc (.int .i64 (w64 (v13.1+1)))) (Hit.rowD 3 37 88) (Hit.mk v15.name v15.depth (Form.mk (w64 (v13.1+1)) v15.one.name v15.one.n v15.one.scopes v15.one.kids) v15.many) V15 (by rw [(Hit.rowDE _ _ _ _),(Hit.rowDE _ _ _ _)];rfl) yS3 yS88 (hw:=by rw [(Hit.rowDE _ _ _ _)];rfl) ?_
 refine zf (zd (zb (za ?_)))
 refine s_mv ?_
 refine zE rfl ?_
 refine s_as ?_
 refine zf (zd (zb (za ?_)))
 iterate 3 refine s_mv ?_
 obtain ⟨v16,V16,F13⟩:=zc F12
 refine zy [] (zbH fu _ _ V16) ?_
 obtain ⟨v17,V17,F14⟩:=zc F13
 refine zgi (Hit.rowD 3 37 88) V17 yE30 ?_
 refine s_fa zgV ?_
 refine s_fa zbC ?_
 refine s_stC (q:=9300) (off:=7) (u:=.sc (.str v16)) (Hit.rowD 3 37 88) (Hit.mk v17.name v17.depth (Form.mk v17.one.kind v16 v17.one.n v17.one.scopes v17.one.kids) v17.many) V17 (by rw [(Hit.rowDE _ _ _ _),(Hit.rowDE _ _ _ _)];rfl) yS9 yS88 (hw:=by rw [(Hit.rowDE _ _ _ _)];rfl) ?_
 refine zf (zd (zb (za ?_)))
 refine s_mv ?_
 refine zE rfl ?_
 refine s_as ?_
 refine zf (zd (zb (za ?_)))
 iterate 3 refine s_mv ?_
 obtain ⟨v18,V18,F15⟩:=zc F14
 refine zgi (Hit.rowD 3 37 88) V18 yE30 ?_
 refine s_fa zgV ?_
 refine s_fa zeg ?_
 refine s_stC (q:=9300) (off:=8) (u:=.sc (.int .i64 (w64 ((w64 ((w64 (v13.1+1))+1))+1)))) (Hit.rowD 3 37 88) (Hit.mk v18.name v18.depth (Form.mk v18.one.kind v18.one.name (w64 ((w64 ((w64 (v13.1+1))+1))+1)) v18.one.scopes v18.one.kids) v18.many) V18 (by rw [(Hit.rowDE _ _ _ _),(Hit.rowDE _ _ _ _)];rfl) yS3 yS88 (hw:=by rw [(Hit.rowDE _ _ _ _)];rfl) ?_
 refine zf (zd (zb (za ?_)))
 refine s_mv ?_
 refine zE rfl ?_
 refine s_as ?_
 refine zf (zd (zb (za ?_)))
 refine s_mv ?_
 refine s_mv ?_
 obtain ⟨v19,V19,F16⟩:=zc F15
 refine zgi (Hit.rowD 3 37 88) V19 yE30 ?_
 refine s_fa zgV ?_
 refine s_fa zdR ?_
 refine s_ldHA (Hit.rowD 3 37 88) rI v19.one.scopes plain_rI V19 yA23 yS88 (hw:=by rw [(Hit.rowDE _ _ _ _)];rfl) ?_
 refine s_mv ?_
 obtain ⟨v20,V20,F17⟩:=zc F16
 refine zT [(9300,90)] [] _ _ (zcQ fu _ _ _ V20) ?_
 refine s_as ?_
 refine zf (zd ?_)
 refine awp_jsA 9300 90 [.sc (.int .i64 v19.name.kind),.sc (.str v19.name.name),.sc (.int .i64 v19.name.n),.ow 3 (v19.name.scopes.map rI),.ow 37 (v19.name.kids.map (Form.rowD 3 37)),.sc (.int .i64 v19.depth),.sc (.int .i64 v19.one.kind),.sc (.str v19.one.name),.sc (.int .i64 v19.one.n),.ow 3 (v20.2.map rI),.ow 37 (v19.one.kids.map (Form.rowD 3 37)),.ow 88 (v19.many.map (Hit.rowD 3 37 88))] V19 (row:=(Hit.rowD 3 37 88)) (hj:=by rw [(Hit.rowDE _ _ _ _)];rfl) (hf:=by rw [(Hit.rowDE _ _ _ _)];rfl) ?_
 refine zgA 9300 (row:=(Hit.rowD 3 37 88)) (fs:=[.sc (.int .i64 v19.name.kind),.sc (.str v19.name.name),.sc (.int .i64 v19.name.n),.ow 3 (v19.name.scopes.map rI),.ow 37 (v19.name.kids.map (Form.rowD 3 37)),.sc (.int .i64 v19.depth),.sc (.int .i64 v19.one.kind),.sc (.str v19.one.name),.sc (.int .i64 v19.one.n),.ow 3 (v20.2.map rI),.ow 37 (v19.one.kids.map (Form.rowD 3 37)),.ow 88 (v19.many.map (Hit.rowD 3 37 88))]) (Hit.mk v19.name v19.depth (Form.mk v19.one.kind v19.one.name v19.one.n v20.2 v19.one.kids) v19.many) (Hit.rowDE _ _ _ _) ?_
 refine zb (za ?_)
 refine s_mv ?_
 refine s_mv ?_
 obtain ⟨v21,V21,F18⟩:=zc F17
 refine zgi (Hit.rowD 3 37 88) V21 yE30 ?_
 refine s_fa zgV ?_
 refine s_fa zJ ?_
 refine s_ldHD (Hit.rowD 3 37 88) (Form.rowD 3 37) v21.one.kids V21 yA35 yS88 (hw:=by rw [(Hit.rowDE _ _ _ _)];rfl) ?_
 refine s_mv ?_
 obtain ⟨v22,V22,F19⟩:=zc F18
 refine zT [(9300,98)] [] _ _ (zdj fu _ _ _ V22) ?_
 refine s_as ?_
 refine zf (zd ?_)
 refine awp_jsD 9300 98 [.sc (.int .i64 v21.name.kind),.sc (.str v21.name.name),.sc (.int .i64 v21.name.n),.ow 3 (v21.name.scopes.map rI),.ow 37 (v21.name.kids.map (Form.rowD 3 37)),.sc (.int .i64 v21.depth),.sc (.int .i64 v21.one.kind),.sc (.str v21.one.name),.sc (.int .i64 v21.one.n),.ow 3 (v21.one.scopes.map rI),.ow 37 (v22.2.map (Form.rowD 3 37)),.ow 88 (v21.many.map (Hit.rowD 3 37 88))] V21 (row:=(Hit.rowD 3 37 88)) (hj:=by rw [(Hit.rowDE _ _ _ _)];rfl) (hf:=by rw [(Hit.rowDE _ _ _ _)];rfl) ?_
 refine zgA 9300 (row:=(Hit.rowD 3 37 88)) (fs:=[.sc (.int .i64 v21.name.kind),.sc (.str v21.name.name),.sc (.int .i64 v21.name.n),.ow 3 (v21.name.scopes.map rI),.ow 37 (v21.name.kids.map (Form.rowD 3 37)),.sc (.int .i64 v21.depth),.sc (.int .i64 v21.one.kind),.sc (.str v21.one.name),.sc (.int .i64 v21.one.n),.ow 3 (v21.one.scopes.map rI),.ow 37 (v22.2.map (Form.rowD 3 37)),.ow 88 (v21.many.map (Hit.rowD 3 37 88))]) (Hit.mk v21.name v21.depth (Form.mk v21.one.kind v21.one.name v21.one.n v21.one.scopes v22.2) v21.many) (Hit.rowDE _ _ _ _) ?_
 refine za ?_
 refine s_mv ?_
 refine s_mv ?_
 obtain ⟨v23,V23,F20⟩:=zc F19
 refine zgi (Hit.rowD 3 37 88) V23 yE30 ?_
 refine s_fa zgD ?_
 refine s_ldHD (Hit.rowD 3 37 88) (Hit.rowD 3 37 88) v23.many V23 yA30 yS88 (hw:=by rw [(Hit.rowDE _ _ _ _)];rfl) ?_
 refine s_mv ?_
 obtain ⟨v24,V24,F21⟩:=zc F20
 refine zT [(9300,105)] [] _ _ (ih_m_laws_markHitS_D fu (by omega) _ _ _ V24) ?_
 refine s_as ?_
 refine zf (zY (zd ?_))
 refine awp_jsD 9300 105 [.sc (.int .i64 v23.name.kind),.sc (.str v23.name.name),.sc (.int .i64 v23.name.n),.ow 3 (v23.name.scopes.map rI),.ow 37 (v23.name.kids.map (Form.rowD 3 37)),.sc (.int .i64 v23.depth),.sc (.int .i64 v23.one.kind),.sc (.str v23.one.name),.sc (.int .i64 v23.one.n),.ow 3 (v23.one.scopes.map rI),.ow 37 (v23.one.kids.map (Form.rowD 3 37)),.ow 88 (v24.2.map (Hit.rowD 3 37 88))] V23 (row:=(Hit.rowD 3 37 88)) (hj:=by rw [(Hit.rowDE _ _ _ _)];rfl) (hf:=by rw [(Hit.rowDE _ _ _ _)];rfl) ?_
 refine zgA 9300 (row:=(Hit.rowD 3 37 88)) (fs:=[.sc (.int .i64 v23.name.kind),.sc (.str v23.name.name),.sc (.int .i64 v23.name.n),.ow 3 (v23.name.scopes.map rI),.ow 37 (v23.name.kids.map (Form.rowD 3 37)),.sc (.int .i64 v23.depth),.sc (.int .i64 v23.one.kind),.sc (.str v23.one.name),.sc (.int .i64 v23.one.n),.ow 3 (v23.one.scopes.map rI),.ow 37 (v23.one.kids.map (Form.rowD 3 37)),.ow 88 (v24.2.map (Hit.rowD 3 37 88))]) (Hit.mk v23.name v23.depth v23.one v24.2) (Hit.rowDE _ _ _ _) ?_
 refine za ?_
 refine s_mv ?_
 refine zE rfl ?_
 refine s_as ?_
 refine zf ?_
 exact s_rn (fu,v24.1,(w64 (g2+1)),((((((((((((g3.set g2.toNat (Hit.mk (Form.mk g1 v6.name.name v6.name.n v6.name.scopes v6.name.kids) v6.depth v6.one v6.many)).set g2.toNat (Hit.mk (Form.mk v8.name.kind v7 v8.name.n v8.name.scopes v8.name.kids) v8.depth v8.one v8.many)).set g2.toNat (Hit.mk (Form.mk v9.name.kind v9.name.name (w64 ((w64 (g1+1))+1)) v9.name.scopes v9.name.kids) v9.depth v9.one v9.many)).set g2.toNat (Hit.mk (Form.mk v10.name.kind v10.name.name v10.name.n v11.2 v10.name.kids) v10.depth v10.one v10.many)).set g2.toNat (Hit.mk (Form.mk v12.name.kind v12.name.name v12.name.n v12.name.scopes v13.2) v12.depth v12.one v12.many)).set g2.toNat (Hit.mk v14.name v13.1 v14.one v14.many)).set g2.toNat (Hit.mk v15.name v15.depth (Form.mk (w64 (v13.1+1)) v15.one.name v15.one.n v15.one.scopes v15.one.kids) v15.many)).set g2.toNat (Hit.mk v17.name v17.depth (Form.mk v17.one.kind v16 v17.one.n v17.one.scopes v17.one.kids) v17.many)).set g2.toNat (Hit.mk v18.name v18.depth (Form.mk v18.one.kind v18.one.name (w64 ((w64 ((w64 (v13.1+1))+1))+1)) v18.one.scopes v18.one.kids) v18.many)).set g2.toNat (Hit.mk v19.name v19.depth (Form.mk v19.one.kind v19.one.name v19.one.n v20.2 v19.one.kids) v19.many)).set g2.toNat (Hit.mk v21.name v21.depth (Form.mk v21.one.kind v21.one.name v21.one.n v21.one.scopes v22.2) v21.many)).set g2.toNat (Hit.mk v23.name v23.depth v23.one v24.2))) ⟨by first | omega | (dsimp only;omega),F21⟩
 refine zA (zr (zp (zu (zd (zb (za ?_))))))
 refine s_mv ?_
 refine s_as ?_
 refine zf (zd (zh (zo ?_)))
 cases F2
 exact zk _ [] Tryz.results21
theorem m_laws_markHitS_D_all (fuel:Nat):zdx fuel:=by
 induction fuel using Nat.strongRecOn with
 | _ N ih =>
   cases N with
   | zero=>exact (by intro x1 x2 r h;rw [zbS] at h;cases h)
   | succ fu=>exact m_laws_markHitS_D_st fu (fun k hk=>(ih k (by omega)))
theorem m_laws_markHitS_D_ok (fuel:Nat):zdx fuel:=(m_laws_markHitS_D_all fuel)
def m_laws_heldIntS_AC (fuel:Nat):Prop:=∀ (x1:(List Int)) (x2:Int) (r:Int),zcy fuel x1 x2=some r→AC Tryz.prog 57 [.t (.sl (x1.map rI)),.t (.sc (.int .i64 x2))] noOb (.t (.sc (.int .i64 r))) noOb
theorem zfw (fuel:Nat):m_laws_heldIntS_AC fuel:=by
 intro x1 x2 r F0
 unfold zcy at F0
 refine AC_i [.t (.sc (.int .i64 r))] Tryz.func57 rfl Tryz.ntmps57 ?_
 intro C hC
 refine zb (za ?_)
 refine s_as ?_
 refine zf (zd (zb (zb (za ?_))))
 refine s_as ?_
 refine zf (zd (zl ?_))
 refine zaE (β:=Int × Int) [1,4,5,6,7,8,9,10,11,12,13,14,15,16,17,18,19] [] [] (fun a=>[(1,.t (.sc (.int .i64 a.2.1))),(5,.t (.sc (.int .i64 a.2.2)))]) (fun a=>[]) (fun a=>a.1≤fuel∧zbM a.1 x1 a.2.1 a.2.2=some r∧0≤a.2.2) (fuel,x2,0) ⟨Nat.le_refl _,F0,by simp⟩ ?_
 clear F0
 rintro ⟨fu,g1,g2⟩ ⟨hl3,F1,hn_g2⟩
 dsimp only at hl3 F1 hn_g2 ⊢
 obtain _ | fu:=fu
 · rw [zbM] at F1;cases F1
 rw [zbM] at F1
 refine zb (zb (za ?_))
 refine s_mv ?_
 refine s_mv ?_
 refine zB yU23 ?_
 refine s_lt ?_
 refine zf (zd ?_)
 refine zn F1 ?_ ?_<;>intro C4 F2
 refine zH 0 (fun B5=>?_)
 refine zi (zd (zb (zl (zb (zb (za ?_))))))
 refine s_mv ?_
 refine s_mv ?_
 obtain ⟨v6,V6,F3⟩:=zc F2
 refine zN rI V6 rfl yE23 ?_
 refine zq yA3 ?_
 refine s_mv ?_
 refine s_ne ?_
 refine zf (zd ?_)
 refine zn F3 ?_ ?_<;>intro C7 F4
 refine zb (za ?_)
 refine s_as ?_
 refine zf (zd (zh (zg (zj (zg (zv (zj (zg (zo ?_)))))))))
 cases F4
 exact zk [] [] Tryz.results57
 refine zi (zd (za ?_))
 refine s_mv ?_
 refine zE rfl ?_
 refine s_as ?_
 refine zf (zY (zd (za ?_)))
 refine s_mv ?_
 refine zE (zaF C4 B5 hn_g2) ?_
 refine s_as ?_
 refine zf ?_
 exact s_rn (fu,(w64 (g1+1)),(g2+1)) ⟨by first | omega | (dsimp only;omega),F4,by first | omega | (dsimp only;omega)⟩
 refine zA (zr (zp (zu (zd (zb (za ?_))))))
 refine s_mv ?_
 refine s_as ?_
 refine zf (zd (zh (zo ?_)))
 cases F2
 exact zk [] [] Tryz.results57
def zdY (fuel:Nat):Prop:=∀ (x1:(List Form)) (x2:Int) (r:Int),zaL fuel x1 x2=some r→AC Tryz.prog 58 [.t (.sl (x1.map Form.row)),.t (.sc (.int .i64 x2))] noOb (.t (.sc (.int .i64 r))) noOb
theorem m_laws_heldFormS_st (fu:Nat) (ih_m_laws_heldFormS:∀ k,k≤fu→zdY k):zdY (fu+1):=by
 intro x1 x2 r F0
 rw [zaL] at F0
 refine AC_i [.t (.sc (.int .i64 r))] Tryz.func58 rfl Tryz.ntmps58 ?_
 intro C hC
 refine zb (za ?_)
 refine s_as ?_
 refine zf (zd (zb (zb (za ?_))))
 refine s_as ?_
 refine zf (zd (zl ?_))
 refine zaE (β:=Int × Int) [1,4,5,6,7,8,9,10,11,12,13,14,15,16,17,18,19,20,21,22,23,24,25,26,27,28,29,30,31,32,33,34,35,36,37,38,39,40,41,42,43,44,45,46,47,48,49,50,51,52,53,54,55,56,57] [] [] (fun a=>[(1,.t (.sc (.int .i64 a.2.1))),(5,.t (.sc (.int .i64 a.2.2)))]) (fun a=>[]) (fun a=>a.1≤fu∧zbw a.1 x1 a.2.1 a.2.2=some r∧0≤a.2.2) (fu,x2,0) ⟨Nat.le_refl _,F0,by simp⟩ ?_
 clear F0
 rintro ⟨fu,g1,g2⟩ ⟨hl3,F1,hn_g2⟩
 dsimp only at hl3 F1 hn_g2 ⊢
 obtain _ | fu:=fu
 · rw [zbw] at F1;cases F1
 rw [zbw] at F1
 refine zb (zb (za ?_))
 refine s_mv ?_
 refine s_mv ?_
 refine zB yU35 ?_
 refine s_lt ?_
 refine zf (zd ?_)
 refine zn F1 ?_ ?_<;>intro C4 F2
 refine zH 0 (fun B5=>?_)
 refine zi (zd (zb (zl (zb (zb (za ?_))))))
 refine s_mv ?_
 refine s_mv ?_
 obtain ⟨v6,V6,F3⟩:=zc F2
 refine zN Form.row V6 (Form.row_eq _) yE35 ?_
 refine s_fa zcD ?_
 refine zq yA3 ?_
 refine s_mv ?_
 refine s_ne ?_
 refine zf (zd ?_)
 refine zn F3 ?_ ?_<;>intro C7 F4
 refine zb (za ?_)
 refine s_as ?_
 refine zf (zd (zh (zg (zj (zg (zv (zj (zg (zo ?_)))))))))
 cases F4
 exact zk [] [] Tryz.results58
 refine zi (zd (zb (za ?_)))
 refine s_mv ?_
 refine zE rfl ?_
 refine s_as ?_
 refine zf (zd (zb (zb ?_)))
 refine zP yMix (by kernel_rfl) ?_
 refine s_mv ?_
 refine s_mv ?_
 obtain ⟨v8,V8,F5⟩:=zc F4
 refine zN Form.row V8 (Form.row_eq _) yE35 ?_
 refine s_fa zbC ?_
 refine zq yA9 ?_
 refine s_mv ?_
 obtain ⟨v9,V9,F6⟩:=zc F5
 refine zy [] (zbH fu _ _ V9) ?_
 refine s_neS ?_
 refine zai (by kernel_rfl) ?_
 refine zd ?_
 refine zn F6 ?_ ?_<;>intro C10 F7
 refine zb (za ?_)
 refine s_as ?_
 refine zf (zd (zh (zg (zj (zg (zv (zj (zg (zo ?_)))))))))
 cases F7
 exact zk [] [] Tryz.results58
 refine zi (zd (zb (za ?_)))
 refine s_mv ?_
 refine zE rfl ?_
 refine s_as ?_
 refine zf (zd (zb (zb (za ?_))))
 refine s_mv ?_
 refine s_mv ?_
 obtain ⟨v11,V11,F8⟩:=zc F7
 refine zN Form.row V11 (Form.row_eq _) yE35 ?_
 refine s_fa zeg ?_
 refine zq yA3 ?_
 refine s_mv ?_
 refine s_ne ?_
 refine zf (zd ?_)
 refine zn F8 ?_ ?_<;>intro C12 F9
 refine zb (za ?_)
 refine s_as ?_
 refine zf (zd (zh (zg (zj (zg (zv (zj (zg (zo ?_)))))))))
 cases F9
 exact zk [] [] Tryz.results58
 refine zi (zd (zb (za ?_)))
 refine s_mv ?_
 refine zE rfl ?_
 refine s_as ?_
 refine zf (zd (zb (za ?_)))
 refine s_mv ?_
 refine s_mv ?_
 obtain ⟨v13,V13,F10⟩:=zc F9
 refine zN Form.row V13 (Form.row_eq _) yE35 ?_
 refine s_fa zdR ?_
 refine zq yA23 ?_
 refine s_mv ?_
 obtain ⟨v14,V14,F11⟩:=zc F10
 refine zy [] (zfw fu _ _ _ V14) ?_
 refine s_as ?_
 refine zf (zd (zb (zb (za ?_))))
 refine s_mv ?_
 refine s_lt ?_
 refine zf (zd ?_)
 refine zn F11 ?_ ?_<;>intro C15 F12
 refine zb (za ?_)
 refine s_as ?_
 refine zf (zd (zh (zg (zj (zg (zv (zj (zg (zo ?_)))))))))
 cases F12
 exact zk [] [] Tryz.results58
 refine zi (zd (zb (za ?_)))
 refine s_mv ?_
 refine s_mv ?_
 obtain ⟨v16,V16,F13⟩:=zc F12
 refine zN Form.row V16 (Form.row_eq _) yE35 ?_
 refine s_fa zJ ?_
 refine zq yA35 ?_
 refine s_mv ?_
 obtain ⟨v17,V17,F14⟩:=zc F13
 refine zy [] (ih_m_laws_heldFormS fu (by omega) _ _ _ V17) ?_
 refine s_as ?_
 refine zf (zd (zb (za ?_)))
 refine s_mv ?_
 refine s_lt ?_
 refine zf (zd ?_)
 refine zn F14 ?_ ?_<;>intro C18 F15
 refine zb (za ?_)
 refine s_as ?_
 refine zf (zd (zh (zj (zg (zv (zj (zg (zo ?_))))))))
 cases F15
 exact zk [] [] Tryz.results58
 refine zi (zY (zd (za ?_)))
 refine s_mv ?_
 refine zE (zaF C4 B5 hn_g2) ?_
 refine s_as ?_
 refine zf ?_
 exact s_rn (fu,v17,(g2+1)) ⟨by first | omega | (dsimp only;omega),F15,by first | omega | (dsimp only;omega)⟩
 refine zA (zr (zp (zu (zd (zb (za ?_))))))
 refine s_mv ?_
 refine s_as ?_
 refine zf (zd (zh (zo ?_)))
 cases F2
 exact zk [] [] Tryz.results58
theorem m_laws_heldFormS_all (fuel:Nat):zdY fuel:=by
 induction fuel using Nat.strongRecOn with
 | _ N ih =>
   cases N with
   | zero=>exact (by intro x1 x2 r h;rw [zaL] at h;cases h)
   | succ fu=>exact m_laws_heldFormS_st fu (fun k hk=>(ih k (by omega)))
theorem zgu (fuel:Nat):zdY fuel:=(m_laws_heldFormS_all fuel)
def zek (fuel:Nat):Prop:=∀ (x1:(List Hit)) (x2:Int) (r:Int),zbv fuel x1 x2=some r→AC Tryz.prog 22 [.t (.sl (x1.map Hit.row)),.t (.sc (.int .i64 x2))] noOb (.t (.sc (.int .i64 r))) noOb
theorem m_laws_heldHitS_st (fu:Nat) (ih_m_laws_heldHitS:∀ k,k≤fu→zek k):zek (fu+1):=by
 intro x1 x2 r F0
 rw [zbv] at F0
 refine AC_i [.t (.sc (.int .i64 r))] Tryz.func22 rfl Tryz.ntmps22 ?_
 intro C hC
 refine zb (za ?_)
 refine s_as ?_
 refine zf (zd (zb (zb (za ?_))))
 refine s_as ?_
 refine zf (zd (zl ?_))
 refine zaE (β:=Int × Int) [1,4,5,6,7,8,9,10,11,12,13,14,15,16,17,18,19,20,21,22,23,24,25,26,27,28,29,30,31,32,33,34,35,36,37,38,39,40,41,42,43,44,45,46,47,48,49,50,51,52,53,54,55,56,57,58,59,60,61,62,63,64,65,66,67,68,69,70,71,72,73,74,75,76,77,78,79,80,81,82,83,84,85,86,87,88,89,90,91,92,93,94,95,96,97,98,99,100,101,102,103,104,105,106,107,108,109,110,111,112,113,114,115,116,117,118,119,120,121,122,123,124,125,126,127,128,129,130,131] [] [] (fun a=>[(1,.t (.sc (.int .i64 a.2.1))),(5,.t (.sc (.int .i64 a.2.2)))]) (fun a=>[]) (fun a=>a.1≤fu∧zbN a.1 x1 a.2.1 a.2.2=some r∧0≤a.2.2) (fu,x2,0) ⟨Nat.le_refl _,F0,by simp⟩ ?_
 clear F0
 rintro ⟨fu,g1,g2⟩ ⟨hl3,F1,hn_g2⟩
 dsimp only at hl3 F1 hn_g2 ⊢
 obtain _ | fu:=fu
 · rw [zbN] at F1;cases F1
 rw [zbN] at F1
 refine zb (zb (za ?_))
 refine s_mv ?_
 refine s_mv ?_
 refine zB yU30 ?_
 refine s_lt ?_
 refine zf (zd ?_)
 refine zn F1 ?_ ?_<;>intro C4 F2
 refine zH 0 (fun B5=>?_)
 refine zi (zd (zb (zl (zb (zb (za ?_))))))
 refine s_mv ?_
 refine s_mv ?_
 obtain ⟨v6,V6,F3⟩:=zc F2
 refine zN Hit.row V6 (Hit.row_eq _) yE30 ?_
 refine s_fa zgW ?_
 refine s_fa zcD ?_
 refine zq yA3 ?_
 refine s_mv ?_
 refine s_ne ?_
 refine zf (zd ?_)
 refine zn F3 ?_ ?_<;>intro C7 F4
 refine zb (za ?_)
 refine s_as ?_
 refine zf (zd (zh (zg (zj (zg (zv (zj (zg (zo ?_)))))))))
 cases F4
 exact zk [] [] Tryz.results22
 refine zi (zd (zb (za ?_)))
 refine s_mv ?_
 refine zE rfl ?_
 refine s_as ?_
 refine zf (zd (zb (zb ?_)))
 refine zP yMix (by kernel_rfl) ?_
 refine s_mv ?_
 refine s_mv ?_
 obtain ⟨v8,V8,F5⟩:=zc F4
 refine zN Hit.row V8 (Hit.row_eq _) yE30 ?_
 refine s_fa zgW ?_
 refine s_fa zbC ?_
 refine zq yA9 ?_
 refine s_mv ?_
 obtain ⟨v9,V9,F6⟩:=zc F5
 refine zy [] (zbH fu _ _ V9) ?_
 refine s_neS ?_
 refine zai (by kernel_rfl) ?_
 refine zd ?_
 refine zn F6 ?_ ?_<;>intro C10 F7
 refine zb (za ?_)
 refine s_as ?_
 refine zf (zd (zh (zg (zj (zg (zv (zj (zg (zo ?_)))))))))
 cases F7
 exact zk [] [] Tryz.results22
 refine zi (zd (zb (za ?_)))
 refine s_mv ?_
 refine zE rfl ?_
 refine s_as ?_
 refine zf (zd (zb (zb (za ?_))))
 refine s_mv ?_
 refine s_mv ?_
 obtain ⟨v11,V11,F8⟩:=zc F7
 refine zN Hit.row V11 (Hit.row_eq _) yE30 ?_
 refine s_fa zgW ?_
 refine s_fa zeg ?_
 refine zq yA3 ?_
 refine s_mv ?_
 refine s_ne ?_
 refine zf (zd ?_)
 refine zn F8 ?_ ?_<;>intro C12 F9
 refine zb (za ?_)
 refine s_as ?_
 refine zf (zd (zh (zg (zj (zg (zv (zj (zg (zo ?_)))))))))
 cases F9
 exact zk [] [] Tryz.results22
 refine zi (zd (zb (za ?_)))
 refine s_mv ?_
 refine zE rfl ?_
 refine s_as ?_
 refine zf (zd (zb (za ?_)))
 refine s_mv ?_
 refine s_mv ?_
 obtain ⟨v13,V13,F10⟩:=zc F9
 refine zN Hit.row V13 (Hit.row_eq _) yE30 ?_
 refine s_fa zgW ?_
 refine s_fa zdR ?_
 refine zq yA23 ?_
 refine s_mv ?_
 obtain ⟨v14,V14,F11⟩:=zc F10
 refine zy [] (zfw fu _ _ _ V14) ?_
 refine s_as ?_
 refine zf (zd (zb (zb (za ?_))))
 refine s_mv ?_
 refine s_lt ?_
 refine zf (zd ?_)
 refine zn F11 ?_ ?_<;>intro C15 F12
 refine zb (za ?_)
 refine s_as ?_
 refine zf (zd (zh (zg (zj (zg (zv (zj (zg (zo ?_)))))))))
 cases F12
 exact zk [] [] Tryz.results22
 refine zi (zd (zb (za ?_)))
 refine s_mv ?_
 refine s_mv ?_
 obtain ⟨v16,V16,F13⟩:=zc F12
 refine zN Hit.row V16 (Hit.row_eq _) yE30 ?_
 refine s_fa zgW ?_
 refine s_fa zJ ?_
 refine zq yA35 ?_
 refine s_mv ?_
 obtain ⟨v17,V17,F14⟩:=zc F13
 refine zy [] (zgu fu _ _ _ V17) ?_
 refine s_as ?_
 refine zf (zd (zb (zb (za ?_))))
 refine s_mv ?_
 refine s_lt ?_
 refine zf (zd ?_)
 refine zn F14 ?_ ?_<;>intro C18 F15
 refine zb (za ?_)
 refine s_as ?_
 refine zf (zd (zh (zg (zj (zg (zv (zj (zg (zo ?_)))))))))
 cases F15
 exact zk [] [] Tryz.results22
 refine zi (zd (zb (zb (za ?_))))
 refine s_mv ?_
 refine s_mv ?_
 obtain ⟨v19,V19,F16⟩:=zc F15
 refine zN Hit.row V19 (Hit.row_eq _) yE30 ?_
 refine s_fa yF88_1 ?_
 refine zq yA3 ?_
 refine s_mv ?_
 refine s_ne ?_
 refine zf (zd ?_)
 refine zn F16 ?_ ?_<;>intro C20 F17
 refine zb (za ?_)
 refine s_as ?_
 refine zf (zd (zh (zg (zj (zg (zv (zj (zg (zo ?_)))))))))
 cases F17
 exact zk [] [] Tryz.results22
 refine zi (zd (zb (za ?_)))
 refine s_mv ?_
 refine zE rfl ?_
 refine s_as ?_
 refine zf (zd (zb (zb (za ?_))))
 refine s_mv ?_
 refine s_mv ?_
 obtain ⟨v21,V21,F18⟩:=zc F17
 refine zN Hit.row V21 (Hit.row_eq _) yE30 ?_
 refine s_fa zgV ?_
 refine s_fa zcD ?_
 refine zq yA3 ?_
 refine s_mv ?_
 refine s_ne ?_
 refine zf (zd ?_)
 refine zn F18 ?_ ?_<;>intro C22 F19
 refine zb (za ?_)
 refine s_as ?_
 refine zf (zd (zh (zg (zj (zg (zv (zj (zg (zo ?_)))))))))
 cases F19
 exact zk [] [] Tryz.results22
 refine zi (zd (zb (za ?_)))
 refine s_mv ?_
 refine zE rfl ?_
 refine s_as ?_
 refine zf (zd (zb (zb ?_)))
 refine zP yMix (by kernel_rfl) ?_
 refine s_mv ?_
 refine s_mv ?_
 obtain ⟨v23,V23,F20⟩:=zc F19
 refine zN Hit.row V23 (Hit.row_eq _) yE30 ?_
 refine s_fa zgV ?_
 refine s_fa zbC ?_
 refine zq yA9 ?_
 refine s_mv ?_
 obtain ⟨v24,V24,F21⟩:=zc F20
 refine zy [] (zbH fu _ _ V24) ?_
 refine s_neS ?_
 refine zai (by kernel_rfl) ?_
 refine zd ?_
 refine zn F21 ?_ ?_<;>intro C25 F22
 refine zb (za ?_)
 refine s_as ?_
 refine zf (zd (zh (zg (zj (zg (zv (zj (zg (zo ?_)))))))))
 cases F22
 exact zk [] [] Tryz.results22
 refine zi (zd (zb (za ?_)))
 refine s_mv ?_
 refine zE rfl ?_
 refine s_as ?_
 refine zf (zd (zb (zb (za ?_))))
 refine s_mv ?_
 refine s_mv ?_
 obtain ⟨v26,V26,F23⟩:=zc F22
 refine zN Hit.row V26 (Hit.row_eq _) yE30 ?_
 refine s_fa zgV ?_
 refine s_fa zeg ?_
 refine zq yA3 ?_
 refine s_mv ?_
 refine s_ne ?_
 refine zf (zd ?_)
 refine zn F23 ?_ ?_<;>intro C27 F24
 refine zb (za ?_)
 refine s_as ?_
 refine zf (zd (zh (zg (zj (zg (zv (zj (zg (zo ?_)))))))))
 cases F24
 exact zk [] [] Tryz.results22
 refine zi (zd (zb (za ?_)))
 refine s_mv ?_
 refine zE rfl ?_
 refine s_as ?_
 refine zf (zd (zb (za ?_)))
 refine s_mv ?_
 refine s_mv ?_
 obtain ⟨v28,V28,F25⟩:=zc F24
 refine zN Hit.row V28 (Hit.row_eq _) yE30 ?_
 refine s_fa zgV ?_
 refine s_fa zdR ?_
 refine zq yA23 ?_
 refine s_mv ?_
 obtain ⟨v29,V29,F26⟩:=zc F25
 refine zy [] (zfw fu _ _ _ V29) ?_
 refine s_as ?_
 refine zf (zd (zb (zb (za ?_))))
 refine s_mv ?_
 refine s_lt ?_
 refine zf (zd ?_)
 refine zn F26 ?_ ?_<;>intro C30 F27
 refine zb (za ?_)
 refine s_as ?_
 refine zf (zd (zh (zg (zj (zg (zv (zj (zg (zo ?_)))))))))
 cases F27
 exact zk [] [] Tryz.results22
 refine zi (zd (zb (za ?_)))
 refine s_mv ?_
 refine s_mv ?_
 obtain ⟨v31,V31,F28⟩:=zc F27
 refine zN Hit.row V31 (Hit.row_eq _) yE30 ?_
 refine s_fa zgV ?_
 refine s_fa zJ ?_
 refine zq yA35 ?_
 refine s_mv ?_
 obtain ⟨v32,V32,F29⟩:=zc F28
 refine zy [] (zgu fu _ _ _ V32) ?_
 refine s_as ?_
 refine zf (zd (zb (zb (za ?_))))
 refine s_mv ?_
 refine s_lt ?_
 refine zf (zd ?_)
 refine zn F29 ?_ ?_<;>intro C33 F30
 refine zb (za ?_)
 refine s_as ?_
 refine zf (zd (zh (zg (zj (zg (zv (zj (zg (zo ?_)))))))))
 cases F30
 exact zk [] [] Tryz.results22
 refine zi (zd (zb (za ?_)))
 refine s_mv ?_
 refine s_mv ?_
 obtain ⟨v34,V34,F31⟩:=zc F30
 refine zN Hit.row V34 (Hit.row_eq _) yE30 ?_
 refine s_fa zgD ?_
 refine zq yA30 ?_
 refine s_mv ?_
 obtain ⟨v35,V35,F32⟩:=zc F31
 refine zy [] (ih_m_laws_heldHitS fu (by omega) _ _ _ V35) ?_
 refine s_as ?_
 refine zf (zd (zb (za ?_)))
 refine s_mv ?_
 refine s_lt ?_
 refine zf (zd ?_)
 refine zn F32 ?_ ?_<;>intro C36 F33
 refine zb (za ?_)
 refine s_as ?_
 refine zf (zd (zh (zj (zg (zv (zj (zg (zo ?_))))))))
 cases F33
 exact zk [] [] Tryz.results22
 refine zi (zY (zd (za ?_)))
 refine s_mv ?_
 refine zE (zaF C4 B5 hn_g2) ?_
 refine s_as ?_
 refine zf ?_
 exact s_rn (fu,v35,(g2+1)) ⟨by first | omega | (dsimp only;omega),F33,by first | omega | (dsimp only;omega)⟩
 refine zA (zr (zp (zu (zd (zb (za ?_))))))
 refine s_mv ?_
 refine s_as ?_
 refine zf (zd (zh (zo ?_)))
 cases F2
 exact zk [] [] Tryz.results22
theorem m_laws_heldHitS_all (fuel:Nat):zek fuel:=by
 induction fuel using Nat.strongRecOn with
 | _ N ih =>
   cases N with
   | zero=>exact (by intro x1 x2 r h;rw [zbv] at h;cases h)
   | succ fu=>exact m_laws_heldHitS_st fu (fun k hk=>(ih k (by omega)))
theorem zgP (fuel:Nat):zek fuel:=(m_laws_heldHitS_all fuel)
def m_slices_Clone_int_AC (fuel:Nat):Prop:=∀ (x1:(List Int)) (r:(List Int)),zb4 fuel x1=some r→AC Tryz.prog 137 [.t (.sl (x1.map rI))] noOb (.t (.sl (r.map rI))) noOb
theorem m_slices_Clone_int_ok (fuel:Nat):m_slices_Clone_int_AC fuel:=by
 intro x1 r F0
 unfold zb4 at F0
 refine AC_i [.t (.sl (r.map rI))] Tryz.func137 rfl Tryz.ntmps137 ?_
 intro C hC
 refine awp_nil 0 (fun hz=>?_) ?_
 replace hz:=List.map_eq_nil_iff.mp hz;subst hz;obtain ⟨_,F1⟩:=zat F0
 refine zb (za ?_)
 refine s_as ?_
 refine zf (zd (zb (zb (za ?_))))
 refine s_mv ?_
 refine s_nil yU23 ?_
 refine zf (zd (zaa rfl ?_))
 refine zf7 0 ?_
 refine zf7 3 ?_
 refine zb (za ?_)
 refine s_as ?_
 refine zf (zd (zh (zg (zo ?_))))
 cases F1
 exact zk [] [] Tryz.results137
 refine zb (za ?_)
 refine s_as ?_
 refine zf (zd (zb (zb (za ?_))))
 refine s_mv ?_
 refine s_nil yU23 ?_
 refine zf (zd (zcC rfl ?_))
 refine zf7 0 ?_
 refine zf7 3 ?_
 refine zi (zd (zb (za ?_)))
 refine s_bs rI ([]:List Int) yP23 yR3 ?_
 refine s_mv ?_
 obtain ⟨hk1,F1⟩:=zat F0
 refine zgC rI (fun _=>rfl) hk1 yP23 ?_
 refine s_as ?_
 refine zf (zd (zh (zo ?_)))
 cases F1
 exact zk [] [7] Tryz.results137
end Go.Abs
