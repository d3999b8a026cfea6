/- A part of the proof: what the functions that the law calls answer, as pure values. -/
import Derived.Test.YtcebadpiebamdaaGreatK006dda84d553
import Derived.Test.YtcebadpiebamdaaGreatK08b3b0a7b863
import Derived.Test.YtcebadpiebamdaaGreatK863b9396a6d1
import Derived.Test.YtcebadpiebamdaaGreatKd2883bf7562e
import Derived.Test.YtcebadpiebamdaaGreatK304395599db4
import Derived.Test.YtcebadpiebamdaaGreatK0c09c3f6594f
import Derived.Test.YtcebadpiebamdaaGreatKc6b6c3d51d5e
set_option linter.unusedSimpArgs false
set_option linter.unusedVariables false
set_option maxRecDepth 100000
set_option maxHeartbeats 4000000
namespace Go.Abs
open Go.Proofs
theorem m_spec_l4CopyHit_all (fuel:Nat):zdV fuel:=by
 induction fuel using Nat.strongRecOn with
 | _ N ih =>
   cases N with
   | zero=>exact (by intro x1 r h;rw [zbX] at h;cases h)
   | succ fu=>exact m_spec_l4CopyHit_st fu (fun k hk=>(ih k (by omega)))
theorem m_spec_l4CopyHit_ok (fuel:Nat):zdV fuel:=(m_spec_l4CopyHit_all fuel)
def m_spec_l4Copy_AC (fuel:Nat):Prop:=∀ (x1:(List Hit)) (r:(List Hit)),zfq fuel x1=some r→AC Tryz.prog 45 [.t (.sl (x1.map Hit.row))] (objs []) (.ar 9200) (objs [(9200,.arr (r.map Hit.row) 88 true)])
theorem m_spec_l4Copy_ok (fuel:Nat):m_spec_l4Copy_AC fuel:=by
 intro x1 r F0
 unfold zfq at F0
 refine AC_i [.ar 9200] Tryz.func45 rfl Tryz.ntmps45 ?_
 intro C hC
 refine zb (za ?_)
 refine s_as ?_
 refine zf (zd (zb (za ?_)))
 refine s_bs Hit.row ([]:List Hit) yP30 yR88 ?_
 refine s_as ?_
 refine zf (zd (zb (zb (za ?_))))
 refine s_as ?_
 refine zf (zd (zl ?_))
 refine zeY 3 5 5020 (by conv=>lhs;whnf) (by conv=>lhs;whnf) rfl ?_
 refine zap [3,4,6,7,8,9,10,11,12,13,14,15,16,17,18,19] [5020] [18,19] [5020] (fun a:Nat × (List Hit) × Int=>a.1) (fun a:Nat × (List Hit) × Int=>[(3,.ar 5020),(4,.t (.sc (.int .i64 a.2.2)))]) (fun a:Nat × (List Hit) × Int=>[(5020,.arr (a.2.1.map Hit.row) 88 true)]) (fun a:Nat × (List Hit) × Int=>a.1≤fuel∧zcH a.1 x1 a.2.1 a.2.2=some r∧0≤a.2.2) (fuel,([]:List Hit),0) ⟨Nat.le_refl _,F0,by simp⟩ (by rfl) (by rfl) (fun _=>rfl) (zZ (by conv=>lhs;whnf) (by rfl) (zZ (by conv=>lhs;whnf) (by rfl) zbP)) (zQ (by conv=>lhs;whnf) (by rfl) zbp) (zcP hC rfl) (by repeat (first | exact zah rfl | refine zaA rfl ?_ | refine zab rfl ?_)) (by repeat (first | exact za5 | exact zal rfl | refine zaB rfl ?_ | refine zac rfl ?_)) ?_
 clear F0
 rintro ⟨fu,g1,g2⟩ ⟨hl3,F1,hn_g2⟩
 dsimp only at hl3 F1 hn_g2 ⊢
 obtain _ | fu:=fu
 · rw [zcH] at F1;cases F1
 rw [zcH] at F1
 refine zb (zb (za ?_))
 refine s_mv ?_
 refine s_mv ?_
 refine zB yU30 ?_
 refine s_lt ?_
 refine zf (zd ?_)
 refine zn F1 ?_ ?_<;>intro C4 F2
 refine zH 0 (fun B5=>?_)
 refine zi (zd (zb (zl (za ?_))))
 iterate 3 refine s_mv ?_
 obtain ⟨v6,V6,F3⟩:=zc F2
 refine zN Hit.row V6 (Hit.row_eq _) yE30 ?_
 refine zaI yA88 yS88 ?_
 obtain ⟨v7,V7,F4⟩:=zc F3
 refine zy [] (m_spec_l4CopyHit_ok fu _ _ V7) ?_
 refine s_bs Hit.row [v7] yP30 yR88 ?_
 obtain ⟨hk8,F5⟩:=zat F4
 refine zgC Hit.row (fun y=>Hit.row_len y) hk8 yP30 ?_
 refine s_as ?_
 refine zf (zY (zd (za ?_)))
 refine s_mv ?_
 refine zE (zaF C4 B5 hn_g2) ?_
 refine s_as ?_
 refine zf ?_
 exact s_rn (fu,(g1++[v7]),(g2+1)) ⟨by first | omega | (dsimp only;omega),F5,by first | omega | (dsimp only;omega)⟩ [(5020,19)]
 refine zA (zr (zp (zu (zd (zb (za ?_))))))
 refine s_mv ?_
 refine s_as ?_
 refine zf (zd ?_)
 refine zeY 2 5020 9200 (by conv=>lhs;whnf) (by conv=>lhs;whnf) rfl ?_
 refine zh (zo ?_)
 cases F2
 exact zk _ [] Tryz.results45
def m_spec_MatchPattern_AC (fuel:Nat):Prop:=∀ (x1:(List Bind)) (x2:Form) (x3:(List Form)) (x4:Form) (r:((List Hit) × Bool)),zbr fuel x1 x2 x3 x4=some r→AC Tryz.prog 9 [.t (.sl (x1.map Bind.row)),.ag [.t (.sc (.int .i64 x2.kind)),.t (.sc (.str x2.name)),.t (.sc (.int .i64 x2.n)),.t (.sl (x2.scopes.map rI)),.t (.sl (x2.kids.map Form.row))],.t (.sl (x3.map Form.row)),.ag [.t (.sc (.int .i64 x4.kind)),.t (.sc (.str x4.name)),.t (.sc (.int .i64 x4.n)),.t (.sl (x4.scopes.map rI)),.t (.sl (x4.kids.map Form.row))]] (objs []) (.tp [.ar 9200,.t (.sc (.bool r.2))]) (objs [(9200,.arr (r.1.map Hit.row) 88 true)])
theorem m_spec_MatchPattern_ok (fuel:Nat):m_spec_MatchPattern_AC fuel:=by
 intro x1 x2 x3 x4 r F0
 unfold zbr at F0
 refine AC_i [.ar 9200,.t (.sc (.bool r.2))] Tryz.func9 rfl Tryz.ntmps9 ?_
 intro C hC
 refine zb (za ?_)
 refine zbo ?_
 refine zbo ?_
 refine s_as ?_
 refine s_as ?_
 refine zf (zd (zb ?_))
 refine zdr (α:=Nat × Bool) [12,13,14,15,16,17,18,19,20,21,22,23,24,25] [] [] (fun a=>[(25,.t (.sc (.bool a.2)))]) (fun a=>[]) (fun a=>a.1≤fuel∧zU a.1 x1 x2 x3 x4 a.2=some r) ?_ ?_
 refine za ?_
 refine s_mv ?_
 obtain ⟨v1,V1,F1⟩:=zc F0
 refine zy [] (m_spec_BindsValid_ok fuel _ _ V1) ?_
 refine zbh ?_
 refine s_mv ?_
 refine zx _ 15 F1 ?_ ?_<;>intro C2 F2
 iterate 4 refine r_no rfl ?_
 refine zC ?_
 refine s_mv ?_
 iterate 3 refine r_no rfl ?_
 refine zC ?_
 refine zf ?_
 exact s_jn (fuel,true) ⟨by first | omega | (dsimp only;omega),F2⟩
 refine z6 yA37 yS37 ?_
 refine s_mv ?_
 obtain ⟨v3,V3,F3⟩:=zc F2
 refine zy [] (m_spec_l4Is_ok fuel _ _ _ V3) ?_
 refine zbh ?_
 refine zD ?_
 refine s_mv ?_
 refine zx _ 21 F3 ?_ ?_<;>intro C4 F4
 iterate 3 refine r_no rfl ?_
 refine zC ?_
 refine zf ?_
 exact s_jn (fuel,true) ⟨by first | omega | (dsimp only;omega),F4⟩
 refine z6 yA37 yS37 ?_
 obtain ⟨v5,V5,F5⟩:=zc F4
 refine zy [] (zfc fuel _ _ V5) ?_
 refine zbh ?_
 refine zD ?_
 refine zf ?_
 exact s_jn (fuel,(!v5)) ⟨by first | omega | (dsimp only;omega),F5⟩
 clear F0
 rintro ⟨fu,g6⟩ ⟨hl7,F1⟩
 dsimp only at hl7 F1 ⊢
 obtain _ | fu:=fu
 · rw [zU] at F1;cases F1
 rw [zU] at F1
 refine zn F1 ?_ ?_<;>intro C8 F2
 refine zb (za ?_)
 refine s_bs Hit.row ([]:List Hit) yP30 yR88 ?_
 refine s_as ?_
 refine s_as ?_
 refine zf (zd ?_)
 refine zeY 8 26 9200 (by conv=>lhs;whnf) (by conv=>lhs;whnf) rfl ?_
 refine zh (zg (zo ?_))
 cases F2
 exact zk _ [] Tryz.results9
 refine zi (zd (zb (za ?_)))
 refine s_mv ?_
 refine z6 yA37 yS37 ?_
 refine s_mv ?_
 refine z6 yA37 yS37 ?_
 obtain ⟨v9,V9,F3⟩:=zc F2
 refine zy [] (m_spec_l4Match_ok fu _ _ _ _ _ V9) ?_
 refine s_mv ?_
 refine zdv ?_
 refine zdv ?_
 refine s_as ?_
 refine s_as ?_
 refine zf (zd (zb (zb (za ?_))))
 refine s_mv ?_
 refine zbh ?_
 refine zf (zd ?_)
 refine zn F3 ?_ ?_<;>intro C10 F4
 refine zb (za ?_)
 refine s_bs Hit.row ([]:List Hit) yP30 yR88 ?_
 refine s_as ?_
 refine s_as ?_
 refine zf (zd ?_)
 refine zeY 8 37 9200 (by conv=>lhs;whnf) (by conv=>lhs;whnf) rfl ?_
 refine zh (zg (zo ?_))
 cases F4
 exact zk _ [] Tryz.results9
 refine zi (zd (zb (za ?_)))
 refine s_mv ?_
 obtain ⟨v11,V11,F5⟩:=zc F4
 refine zT [(9200,2039)] [] _ _ (m_spec_l4Copy_ok fu _ _ V11) ?_
 refine s_as ?_
 refine s_as ?_
 refine zf (zd ?_)
 refine zeY 8 2039 9200 (by conv=>lhs;whnf) (by conv=>lhs;whnf) rfl ?_
 refine zh (zo ?_)
 cases F5
 exact zk _ [] Tryz.results9
def m_laws_toIntS_D_AC (fuel:Nat):Prop:=∀ (x1:(List Int)) (r:(List Int)),zdg fuel x1=some r→AC Tryz.prog 47 [.t (.sl (x1.map rI))] (objs []) (.ar 9200) (objs [(9200,.arr (r.map rI) 3 true)])
theorem zgN (fuel:Nat):m_laws_toIntS_D_AC fuel:=by
 intro x1 r F0
 unfold zdg at F0
 refine AC_i [.ar 9200] Tryz.func47 rfl Tryz.ntmps47 ?_
 intro C hC
 refine zb (za ?_)
 refine s_as ?_
 refine zf (zd (zb (za ?_)))
 refine s_mv ?_
 refine zB yU23 ?_
 obtain ⟨hk1,F1⟩:=zat F0
 refine s_mk rI 0 rfl hk1 yP23 yR3 ?_
 refine s_as ?_
 refine zf (zd (zb (zb (za ?_))))
 refine s_as ?_
 refine zf (zd (zl ?_))
 refine zaE (β:=Int × (List Int)) [4,8,9,10,11,12,13,14,15,16,17,18,19,20] [7] [] (fun a=>[(4,.t (.sc (.int .i64 a.2.1)))]) (fun a=>[(7,.arr (a.2.2.map rI) 3 true)]) (fun a=>a.1≤fuel∧zbA a.1 x1 a.2.1 a.2.2=some r∧0≤a.2.1) (fuel,0,(List.replicate (x1.length:Int).toNat 0)) ⟨Nat.le_refl _,F1,by simp⟩ ?_
 clear F1
 rintro ⟨fu,g2,g3⟩ ⟨hl4,F2,hn_g2⟩
 dsimp only at hl4 F2 hn_g2 ⊢
 obtain _ | fu:=fu
 · rw [zbA] at F2;cases F2
 rw [zbA] at F2
 refine zb (zb (za ?_))
 refine s_mv ?_
 refine s_mv ?_
 refine zB yU23 ?_
 refine s_lt ?_
 refine zf (zd ?_)
 refine zn F2 ?_ ?_<;>intro C5 F3
 refine zH 0 (fun B6=>?_)
 refine zi (zd (zb (zl (za ?_))))
 iterate 4 refine s_mv ?_
 obtain ⟨v7,V7,F4⟩:=zc F3
 refine zN rI V7 rfl yE23 ?_
 refine zq yA3 ?_
 obtain ⟨v8,V8,F5⟩:=zc F4
 refine s_ixA rI V8 yE23 ?_
 refine s_stA rI v7 V8 rfl rfl yS3 yS3 ?_
 refine zf (zY (zd (za ?_)))
 refine s_mv ?_
 refine zE (zaF C5 B6 hn_g2) ?_
 refine s_as ?_
 refine zf ?_
 exact s_rn (fu,(g2+1),(g3.set g2.toNat v7)) ⟨by first | omega | (dsimp only;omega),F5,by first | omega | (dsimp only;omega)⟩
 refine zA (zr (zp (zu (zd (zb (za ?_))))))
 refine s_mv ?_
 refine s_as ?_
 refine zf (zd ?_)
 refine zeY 2 7 9200 (by conv=>lhs;whnf) (by conv=>lhs;whnf) rfl ?_
 refine zh (zo ?_)
 cases F3
 exact zk _ [] Tryz.results47
def m_laws_toBind_D_AC (fuel:Nat):Prop:=∀ (x1:Bind) (r:Bind),zdi fuel x1=some r→AC Tryz.prog 46 [.ag [.t (.sc (.str x1.name)),.t (.sl (x1.scopes.map rI)),.t (.sc (.int .i64 x1.id))]] (objs []) (.ag [.t (.sc (.str r.name)),.ar 9201,.t (.sc (.int .i64 r.id))]) (objs [(9201,.arr (r.scopes.map rI) 3 true)])
theorem m_laws_toBind_D_ok (fuel:Nat):m_laws_toBind_D_AC fuel:=by
 intro x1 r F0
 unfold zdi at F0
 refine AC_i [.ag [.t (.sc (.str r.name)),.ar 9201,.t (.sc (.int .i64 r.id))]] Tryz.func46 rfl Tryz.ntmps46 ?_
 intro C hC
 refine zb (za ?_)
 refine zbo ?_
 refine zaN yZ83 ?_
 refine zf (zd (zb (za ?_)))
 refine zaN yZ83 ?_
 refine zf (zd (zb (za ?_)))
 refine s_fa yF77_0 ?_
 refine zq yA9 ?_
 refine s_fa zgX ?_
 refine zgT yS9 ?_
 refine zf (zd (zb (za ?_)))
 refine s_fa yF77_1 ?_
 refine zq yA23 ?_
 obtain ⟨v1,V1,F1⟩:=zc F0
 refine zT [(9200,2009)] [] _ _ (zgN fuel _ _ V1) ?_
 refine s_fa zfY ?_
 refine zgT yS23 ?_
 refine zf (zd (zb (za ?_)))
 refine s_fa yF77_2 ?_
 refine zq yA3 ?_
 refine s_fa yF83_2 ?_
 refine zgT yS3 ?_
 refine zf (zd (zb (za ?_)))
 refine z6 yA83 yS83 ?_
 refine zde yS83 ?_
 refine zf (zd ?_)
 refine zez 2 2009 9201 [.t (.sc (.str x1.name)),.ar 9201,.t (.sc (.int .i64 x1.id))] ?_
 refine zh (zo ?_)
 cases F1
 exact zgl _ [] (by rw [Tryz.results46];exact (res_agg (by conv=>lhs;whnf) (by conv=>lhs;whnf) yA83 yS83 rfl zfp))
def m_laws_toBindS_D_AC (fuel:Nat):Prop:=∀ (x1:(List Bind)) (r:(List Bind)),zb2 fuel x1=some r→AC Tryz.prog 10 [.t (.sl (x1.map Bind.row))] (objs []) (.ar 9200) (objs [(9200,.dar (r.map (Bind.rowD 3)) 83)])
theorem m_laws_toBindS_D_ok (fuel:Nat):m_laws_toBindS_D_AC fuel:=by
 intro x1 r F0
 unfold zb2 at F0
 refine AC_i [.ar 9200] Tryz.func10 rfl Tryz.ntmps10 ?_
 intro C hC
 refine zb (za ?_)
 refine s_as ?_
 refine zf (zd (zb (za ?_)))
 refine s_mv ?_
 refine zB yU22 ?_
 obtain ⟨hk1,F1⟩:=zat F0
 refine s_mkD (Bind.rowD 3) (Bind.mk (⟨#[]⟩:ByteArray) ([]:List Int) 0) [.sc (.str (⟨#[]⟩:ByteArray)),.sc (.nis 3),.sc (.int .i64 0)] (by rw [(Bind.rowDE _ _)];rfl) hk1 yP33 yZ83 yN83 ?_
 refine s_as ?_
 refine zf (zd (zb (zb (za ?_))))
 refine s_as ?_
 refine zf (zd (zl ?_))
 refine zaE (β:=Int × (List Bind)) [4,8,9,10,11,12,13,14,15,16,17,18,19,20,21] [7] [2020] (fun a=>[(4,.t (.sc (.int .i64 a.2.1)))]) (fun a=>[(7,.dar (a.2.2.map (Bind.rowD 3)) 83)]) (fun a=>a.1≤fuel∧za6 a.1 x1 a.2.1 a.2.2=some r∧0≤a.2.1) (fuel,0,(List.replicate (x1.length:Int).toNat (Bind.mk (⟨#[]⟩:ByteArray) ([]:List Int) 0))) ⟨Nat.le_refl _,F1,by simp⟩ ?_
 clear F1
 rintro ⟨fu,g2,g3⟩ ⟨hl4,F2,hn_g2⟩
 dsimp only at hl4 F2 hn_g2 ⊢
 obtain _ | fu:=fu
 · rw [za6] at F2;cases F2
 rw [za6] at F2
 refine zb (zb (za ?_))
 refine s_mv ?_
 refine s_mv ?_
 refine zB yU22 ?_
 refine s_lt ?_
 refine zf (zd ?_)
 refine zn F2 ?_ ?_<;>intro C5 F3
 refine zH 0 (fun B6=>?_)
 refine zi (zd (zb (zl (za ?_))))
 iterate 4 refine s_mv ?_
 obtain ⟨v7,V7,F4⟩:=zc F3
 refine zN Bind.row V7 (Bind.row_eq _) yE22 ?_
 refine zaI yA77 yS77 ?_
 obtain ⟨v8,V8,F5⟩:=zc F4
 refine zT [(9201,2020)] [] _ _ (m_laws_toBind_D_ok fu _ _ V8) ?_
 obtain ⟨v9,V9,F6⟩:=zc F5
 refine zgi (Bind.rowD 3) V9 yE33 ?_
 refine s_stS (Bind.rowD 3) [.sc (.str v8.name),.any,.sc (.int .i64 v8.id)] [(g2.toNat,1,2020)] V9 yS83 yS83 ?_
 refine zf (zY (zd ?_))
 refine awp_jsA 7 2020 [.sc (.str v8.name),.ow 3 (v8.scopes.map rI),.sc (.int .i64 v8.id)] V9 ?_
 refine zgA 7 (row:=(Bind.rowD 3)) (fs:=[.sc (.str v8.name),.ow 3 (v8.scopes.map rI),.sc (.int .i64 v8.id)]) v8 (Bind.rowDE _ _) ?_
 refine za ?_
 refine s_mv ?_
 refine zE (zaF C5 B6 hn_g2) ?_
 refine s_as ?_
 refine zf ?_
 exact s_rn (fu,(g2+1),(g3.set g2.toNat v8)) ⟨by first | omega | (dsimp only;omega),F6,by first | omega | (dsimp only;omega)⟩
 refine zA (zr (zp (zu (zd (zb (za ?_))))))
 refine s_mv ?_
 refine s_as ?_
 refine zf (zd ?_)
 refine awp_mvD 2 7 9200 (by conv=>lhs;whnf) (by conv=>lhs;whnf) rfl ?_
 refine zh (zo ?_)
 cases F3
 exact zk _ [] Tryz.results10
def zc1 (fuel:Nat):Prop:=∀ (x1:(List Form)) (r:(List Form)),zaS fuel x1=some r→AC Tryz.prog 12 [.t (.sl (x1.map Form.row))] (objs []) (.ar 9200) (objs [(9200,.dar (r.map (Form.rowD 3 37)) 37)])
def zdh (fuel:Nat):Prop:=∀ (x1:Form) (r:Form),zaf fuel x1=some r→AC Tryz.prog 11 [.ag [.t (.sc (.int .i64 x1.kind)),.t (.sc (.str x1.name)),.t (.sc (.int .i64 x1.n)),.t (.sl (x1.scopes.map rI)),.t (.sl (x1.kids.map Form.row))]] (objs []) (.ag [.t (.sc (.int .i64 r.kind)),.t (.sc (.str r.name)),.t (.sc (.int .i64 r.n)),.ar 9203,.ar 9204]) (objs [(9203,.arr (r.scopes.map rI) 3 true),(9204,.dar (r.kids.map (Form.rowD 3 37)) 37)])
theorem m_laws_toFormS_D_st (fu:Nat) (ih_m_laws_toFormS_D:∀ k,k≤fu→zc1 k) (ih_m_laws_toForm_D:∀ k,k≤fu→zdh k):zc1 (fu+1):=by
 intro x1 r F0
 rw [zaS] at F0
 refine AC_i [.ar 9200] Tryz.func12 rfl Tryz.ntmps12 ?_
 intro C hC
 refine zb (za ?_)
 refine s_as ?_
 refine zf (zd (zb (za ?_)))
 refine s_mv ?_
 refine zB yU24 ?_
 obtain ⟨hk1,F1⟩:=zat F0
 refine s_mkD (Form.rowD 3 37) (Form.mk 0 (⟨#[]⟩:ByteArray) 0 ([]:List Int) ([]:List Form)) [.sc (.int .i64 0),.sc (.str (⟨#[]⟩:ByteArray)),.sc (.int .i64 0),.sc (.nis 3),.sc (.nis 37)] (by rw [(Form.rowDE _ _ _)];rfl) hk1 yP35 yZ37 yN37 ?_
 refine s_as ?_
 refine zf (zd (zb (zb (za ?_))))
 refine s_as ?_
 refine zf (zd (zl ?_))
 refine zaE (β:=Int × (List Form)) [4,8,9,10,11,12,13,14,15,16,17,18,19,20,21] [7] [2020,12020] (fun a=>[(4,.t (.sc (.int .i64 a.2.1)))]) (fun a=>[(7,.dar (a.2.2.map (Form.rowD 3 37)) 37)]) (fun a=>a.1≤fu∧zaw a.1 x1 a.2.1 a.2.2=some r∧0≤a.2.1) (fu,0,(List.replicate (x1.length:Int).toNat (Form.mk 0 (⟨#[]⟩:ByteArray) 0 ([]:List Int) ([]:List Form)))) ⟨Nat.le_refl _,F1,by simp⟩ ?_
 clear F1
 rintro ⟨fu,g2,g3⟩ ⟨hl4,F2,hn_g2⟩
 dsimp only at hl4 F2 hn_g2 ⊢
 obtain _ | fu:=fu
 · rw [zaw] at F2;cases F2
 rw [zaw] at F2
 refine zb (zb (za ?_))
 refine s_mv ?_
 refine s_mv ?_
 refine zB yU24 ?_
 refine s_lt ?_
 refine zf (zd ?_)
 refine zn F2 ?_ ?_<;>intro C5 F3
 refine zH 0 (fun B6=>?_)
 refine zi (zd (zb (zl (za ?_))))
 iterate 4 refine s_mv ?_
 obtain ⟨v7,V7,F4⟩:=zc F3
 refine zN Form.row V7 (Form.row_eq _) yE24 ?_
 refine zaI yA26 yS26 ?_
 obtain ⟨v8,V8,F5⟩:=zc F4
 refine zT [(9203,2020),(9204,12020)] [] _ _ (ih_m_laws_toForm_D fu (by omega) _ _ V8) ?_
 obtain ⟨v9,V9,F6⟩:=zc F5
 refine zgi (Form.rowD 3 37) V9 yE35 ?_
 refine s_stS (Form.rowD 3 37) [.sc (.int .i64 v8.kind),.sc (.str v8.name),.sc (.int .i64 v8.n),.any,.any] [(g2.toNat,3,2020),(g2.toNat,4,12020)] V9 yS37 yS37 ?_
 refine zf (zY (zd ?_))
 refine awp_jsA 7 2020 [.sc (.int .i64 v8.kind),.sc (.str v8.name),.sc (.int .i64 v8.n),.ow 3 (v8.scopes.map rI),.any] V9 ?_
 refine awp_jsD 7 12020 [.sc (.int .i64 v8.kind),.sc (.str v8.name),.sc (.int .i64 v8.n),.ow 3 (v8.scopes.map rI),.ow 37 (v8.kids.map (Form.rowD 3 37))] V9 ?_
 refine zgA 7 (row:=(Form.rowD 3 37)) (fs:=[.sc (.int .i64 v8.kind),.sc (.str v8.name),.sc (.int .i64 v8.n),.ow 3 (v8.scopes.map rI),.ow 37 (v8.kids.map (Form.rowD 3 37))]) v8 (Form.rowDE _ _ _) ?_
 refine za ?_
 refine s_mv ?_
 refine zE (zaF C5 B6 hn_g2) ?_
 refine s_as ?_
 refine zf ?_
 exact s_rn (fu,(g2+1),(g3.set g2.toNat v8)) ⟨by first | omega | (dsimp only;omega),F6,by first | omega | (dsimp only;omega)⟩
 refine zA (zr (zp (zu (zd (zb (za ?_))))))
 refine s_mv ?_
 refine s_as ?_
 refine zf (zd ?_)
 refine awp_mvD 2 7 9200 (by conv=>lhs;whnf) (by conv=>lhs;whnf) rfl ?_
 refine zh (zo ?_)
 cases F3
 exact zk _ [] Tryz.results12
theorem m_laws_toForm_D_st (fu:Nat) (ih_m_laws_toFormS_D:∀ k,k≤fu→zc1 k) (ih_m_laws_toForm_D:∀ k,k≤fu→zdh k):zdh (fu+1):=by
 intro x1 r F0
 rw [zaf] at F0
 refine AC_i [.ag [.t (.sc (.int .i64 r.kind)),.t (.sc (.str r.name)),.t (.sc (.int .i64 r.n)),.ar 9203,.ar 9204]] Tryz.func11 rfl Tryz.ntmps11 ?_
 intro C hC
 refine zb (za ?_)
 refine zbo ?_
 refine zaN yZ37 ?_
 refine zf (zd (zb (za ?_)))
 refine zaN yZ37 ?_
 refine zf (zd (zb (za ?_)))
 refine s_fa yF26_0 ?_
 refine zq yA3 ?_
 refine s_fa zcD ?_
 refine zgT yS3 ?_
 refine zf (zd (zb (za ?_)))
 refine s_fa yF26_1 ?_
 refine zq yA9 ?_
 refine s_fa zbC ?_
 refine zgT yS9 ?_
 refine zf (zd (zb (za ?_)))
 refine s_fa yF26_2 ?_
 refine zq yA3 ?_
 refine s_fa zeg ?_
 refine zgT yS3 ?_
 refine zf (zd (zb (za ?_)))
 refine s_fa yF26_3 ?_
 refine zq yA23 ?_
 obtain ⟨v1,V1,F1⟩:=zc F0
 refine zT [(9200,2015)] [] _ _ (zgN fu _ _ V1) ?_
 refine s_fa zdR ?_
 refine zgT yS23 ?_
 refine zf (zd (zb (za ?_)))
 refine s_fa yF26_4 ?_
 refine zq yA24 ?_
 obtain ⟨v2,V2,F2⟩:=zc F1
 refine zT [(9200,2019)] [] _ _ (ih_m_laws_toFormS_D fu (by omega) _ _ V2) ?_
 refine s_fa zJ ?_
 refine zgT yS35 ?_
 refine zf (zd (zb (za ?_)))
 refine z6 yA37 yS37 ?_
 refine zde yS37 ?_
 refine zf (zd ?_)
 refine zez 2 2015 9203 [.t (.sc (.int .i64 x1.kind)),.t (.sc (.str x1.name)),.t (.sc (.int .i64 x1.n)),.ar 9203,.ar 2019] ?_
 refine awp_mvBO 2 2019 9204 [.t (.sc (.int .i64 x1.kind)),.t (.sc (.str x1.name)),.t (.sc (.int .i64 x1.n)),.ar 9203,.ar 9204] ?_
 refine zh (zo ?_)
 cases F2
 exact zgl _ [] (by rw [Tryz.results11];exact (res_agg (by conv=>lhs;whnf) (by conv=>lhs;whnf) yA37 yS37 rfl zfp))
theorem zge (fuel:Nat):zc1 fuel∧zdh fuel:=by
 induction fuel using Nat.strongRecOn with
 | _ N ih =>
   cases N with
   | zero=>exact ⟨(by intro x1 r h;rw [zaS] at h;cases h),(by intro x1 r h;rw [zaf] at h;cases h)⟩
   | succ fu=>exact ⟨m_laws_toFormS_D_st fu (fun k hk=>(ih k (by omega)).1) (fun k hk=>(ih k (by omega)).2),m_laws_toForm_D_st fu (fun k hk=>(ih k (by omega)).1) (fun k hk=>(ih k (by omega)).2)⟩
theorem m_laws_toFormS_D_ok (fuel:Nat):zc1 fuel:=(zge fuel).1
theorem zgO (fuel:Nat):zdh fuel:=(zge fuel).2
def m_strings_IndexByte_AC (fuel:Nat):Prop:=∀ (x1:ByteArray) (x2:Int) (r:Int),zdU fuel x1 x2=some r→AC Tryz.prog 130 [.t (.sc (.str x1)),.t (.sc (.int .u8 x2))] noOb (.t (.sc (.int .i64 r))) noOb
theorem zfH (fuel:Nat):m_strings_IndexByte_AC fuel:=by
 intro x1 x2 r h
 obtain rfl:=Option.some.inj h
 exact ac_two (a:=.str x1) (b:=.int .u8 x2) (r:=.int .i64 _) ⟨_,Tryz.func130,by kernel_rfl,by kernel_rfl⟩ (fun w=>Tryz.strings_IndexByte x1 x2 w)
def m_impl_within_AC (fuel:Nat):Prop:=∀ (x1:Int) (x2:Int) (x3:Int) (r:Bool),zdl fuel x1 x2 x3=some r→AC Tryz.prog 94 [.t (.sc (.int .i64 x1)),.t (.sc (.int .i64 x2)),.t (.sc (.int .i64 x3))] noOb (.t (.sc (.bool r))) noOb
theorem ze5 (fuel:Nat):m_impl_within_AC fuel:=by
 intro x1 x2 x3 r F0
 unfold zdl at F0
 refine AC_i [.t (.sc (.bool r))] Tryz.func94 rfl Tryz.ntmps94 ?_
 intro C hC
 refine zb (za ?_)
 refine s_as ?_
 refine zf (zd (zb (za ?_)))
 refine s_mv ?_
 refine s_mv ?_
 refine s_ge ?_
 refine s_mv ?_
 refine zx _ 10 F0 ?_ ?_<;>intro C1 F1
 refine s_mv ?_
 refine s_mv ?_
 refine s_le ?_
 refine zC ?_
 refine s_as ?_
 refine zf (zd (zh (zo ?_)))
 cases F1
 exact zk [] [] Tryz.results94
 iterate 3 refine r_no rfl ?_
 refine zD ?_
 refine s_as ?_
 refine zf (zd (zh (zo ?_)))
 cases F1
 exact zk [] [] Tryz.results94
def m_impl_NameValid_AC (fuel:Nat):Prop:=∀ (x1:ByteArray) (r:Bool),zdb fuel x1=some r→AC Tryz.prog 92 [.t (.sc (.str x1))] noOb (.t (.sc (.bool r))) noOb
theorem zgv (fuel:Nat):m_impl_NameValid_AC fuel:=by
 intro x1 r F0
 unfold zdb at F0
 refine AC_i [.t (.sc (.bool r))] Tryz.func92 rfl Tryz.ntmps92 ?_
 intro C hC
 refine zb (za ?_)
 refine s_as ?_
 refine zf (zd (zb (zb (za ?_))))
 refine s_mv ?_
 refine zgj ?_
 refine s_mv ?_
 refine zx _ 7 F0 ?_ ?_<;>intro C1 F1
 refine r_no rfl (r_no rfl ?_)
 refine zC ?_
 refine zf (zd (zaa rfl (zb (za ?_))))
 refine s_as ?_
 refine zf (zd (zh (zg (zo ?_))))
 cases F1
 exact zk [] [] Tryz.results92
 refine s_mv ?_
 refine zgj ?_
 refine zD ?_
 refine zf (zd ?_)
 refine zn F1 ?_ ?_<;>intro C2 F2
 refine zb (za ?_)
 refine s_as ?_
 refine zf (zd (zh (zg (zo ?_))))
 cases F2
 exact zk [] [] Tryz.results92
 refine zi (zd (zb (zb (za ?_))))
 refine s_as ?_
 refine zf (zd (zl ?_))
 refine zaE (β:=Int) [2,3,4,11,12,13,14,15,16,17,18,19,20,21,22,23,24,25,26,27,28,29,30,31,32,33,34,35,36,37,38,39,40,41,42,43,44,45,46] [] [] (fun a=>[(3,.t (.sc (.int .i64 a.2)))]) (fun a=>[]) (fun a=>a.1≤fuel∧zR a.1 x1 a.2=some r) (fuel,0) ⟨Nat.le_refl _,F2⟩ ?_
 clear F2
 rintro ⟨fu,g3⟩ ⟨hl4,F3⟩
 dsimp only at hl4 F3 ⊢
 obtain _ | fu:=fu
 · rw [zR] at F3;cases F3
 rw [zR] at F3
 refine zb (zb (za ?_))
 refine s_mv ?_
 refine s_mv ?_
 refine s_lenS yU9 ?_
 refine s_lt ?_
 refine zf (zd ?_)
 refine zn F3 ?_ ?_<;>intro C5 F4
 refine zi (zd (zb (zl (zb (za ?_)))))
 refine s_mv ?_
 refine s_mv ?_
 obtain ⟨v6,V6,F5⟩:=zc F4
 refine s_ixS V6 yU9 ?_
 refine s_as ?_
 refine zf (zd (zl (zb (za ?_))))
 refine s_mv ?_
 refine s_ge ?_
 refine s_mv ?_
 refine zx _ 23 F5 ?_ ?_<;>intro C7 F6
 refine s_mv ?_
 refine s_le ?_
 refine zC ?_
 refine s_mv ?_
 refine zx _ 27 F6 ?_ ?_<;>intro C8 F7
 iterate 3 refine r_no rfl ?_
 refine zC ?_
 refine s_as ?_
 refine zf (zd (zaa rfl (zi (zY (zY (zd (za ?_)))))))
 refine s_mv ?_
 refine zE rfl ?_
 refine s_as ?_
 refine zf ?_
 exact s_rn (fu,(w64 (g3+1))) ⟨by first | omega | (dsimp only;omega),F7⟩
 refine s_mv ?_
 obtain ⟨v9,V9,F8⟩:=zc F7
 refine zy [] (zfH fu _ _ _ V9) ?_
 refine s_ge ?_
 refine zD ?_
 refine s_as ?_
 refine zf (zd ?_)
 refine zn F8 ?_ ?_<;>intro C10 F9
 refine zi (zY (zY (zd (za ?_))))
 refine s_mv ?_
 refine zE rfl ?_
 refine s_as ?_
 refine zf ?_
 exact s_rn (fu,(w64 (g3+1))) ⟨by first | omega | (dsimp only;omega),F9⟩
 refine zb (za ?_)
 refine s_mv ?_
 refine s_gt ?_
 refine s_mv ?_
 refine zx _ 35 F9 ?_ ?_<;>intro C11 F10
 refine s_mv ?_
 refine s_ge ?_
 refine s_mv ?_
 refine zx _ 38 F10 ?_ ?_<;>intro C12 F11
 refine s_mv ?_
 refine s_le ?_
 refine zC ?_
 refine s_mv ?_
 refine zx _ 42 F11 ?_ ?_<;>intro C13 F12
 refine r_no rfl (r_no rfl ?_)
 refine zC ?_
 refine zC ?_
 refine s_as ?_
 refine zf (zd (zaa rfl (zi (zY (zY (zd (za ?_)))))))
 refine s_mv ?_
 refine zE rfl ?_
 refine s_as ?_
 refine zf ?_
 exact s_rn (fu,(w64 (g3+1))) ⟨by first | omega | (dsimp only;omega),F12⟩
 refine s_mv ?_
 refine s_eq ?_
 refine zD ?_
 refine zC ?_
 refine s_as ?_
 refine zf (zd ?_)
 refine zn F12 ?_ ?_<;>intro C14 F13
 refine zi (zY (zY (zd (za ?_))))
 refine s_mv ?_
 refine zE rfl ?_
 refine s_as ?_
 refine zf ?_
 exact s_rn (fu,(w64 (g3+1))) ⟨by first | omega | (dsimp only;omega),F13⟩
 refine zb (za ?_)
 refine s_as ?_
 refine zf (zd (zh (zj (zj (zg (zv (zj (zg (zo ?_)))))))))
 cases F13
 exact zk [] [] Tryz.results92
 refine r_no rfl (r_no rfl ?_)
 refine zD ?_
 refine s_mv ?_
 refine s_mv ?_
 refine s_eq ?_
 refine zD ?_
 refine zC ?_
 refine s_as ?_
 refine zf (zd ?_)
 refine zn F11 ?_ ?_<;>intro C15 F12
 refine zi (zY (zY (zd (za ?_))))
 refine s_mv ?_
 refine zE rfl ?_
 refine s_as ?_
 refine zf ?_
 exact s_rn (fu,(w64 (g3+1))) ⟨by first | omega | (dsimp only;omega),F12⟩
 refine zb (za ?_)
 refine s_as ?_
 refine zf (zd (zh (zj (zj (zg (zv (zj (zg (zo ?_)))))))))
 cases F12
 exact zk [] [] Tryz.results92
 iterate 10 refine r_no rfl ?_
 refine zD ?_
 refine s_as ?_
 refine zf (zd (zcC rfl (zb (za ?_))))
 refine s_as ?_
 refine zf (zd (zh (zj (zj (zg (zv (zj (zg (zo ?_)))))))))
 cases F10
 exact zk [] [] Tryz.results92
 refine r_no rfl (r_no rfl ?_)
 refine zD ?_
 refine s_mv ?_
 refine s_mv ?_
 obtain ⟨v16,V16,F7⟩:=zc F6
 refine zy [] (zfH fu _ _ _ V16) ?_
 refine s_ge ?_
 refine zD ?_
 refine s_as ?_
 refine zf (zd ?_)
 refine zn F7 ?_ ?_<;>intro C17 F8
 refine zi (zY (zY (zd (za ?_))))
 refine s_mv ?_
 refine zE rfl ?_
 refine s_as ?_
 refine zf ?_
 exact s_rn (fu,(w64 (g3+1))) ⟨by first | omega | (dsimp only;omega),F8⟩
 refine zb (za ?_)
 refine s_mv ?_
 refine s_gt ?_
 refine s_mv ?_
 refine zx _ 35 F8 ?_ ?_<;>intro C18 F9
 refine s_mv ?_
 refine s_ge ?_
 refine s_mv ?_
 refine zx _ 38 F9 ?_ ?_<;>intro C19 F10
 refine s_mv ?_
 refine s_le ?_
 refine zC ?_
 refine s_mv ?_
 refine zx _ 42 F10 ?_ ?_<;>intro C20 F11
 refine r_no rfl (r_no rfl ?_)
 refine zC ?_
 refine zC ?_
 refine s_as ?_
 refine zf (zd (zaa rfl (zi (zY (zY (zd (za ?_)))))))
 refine s_mv ?_
 refine zE rfl ?_
 refine s_as ?_
 refine zf ?_
 exact s_rn (fu,(w64 (g3+1))) ⟨by first | omega | (dsimp only;omega),F11⟩
 refine s_mv ?_
 refine s_eq ?_
 refine zD ?_
 refine zC ?_
 refine s_as ?_
 refine zf (zd ?_)
 refine zn F11 ?_ ?_<;>intro C21 F12
 refine zi (zY (zY (zd (za ?_))))
 refine s_mv ?_
 refine zE rfl ?_
 refine s_as ?_
 refine zf ?_
 exact s_rn (fu,(w64 (g3+1))) ⟨by first | omega | (dsimp only;omega),F12⟩
 refine zb (za ?_)
 refine s_as ?_
 refine zf (zd (zh (zj (zj (zg (zv (zj (zg (zo ?_)))))))))
 cases F12
 exact zk [] [] Tryz.results92
 refine r_no rfl (r_no rfl ?_)
 refine zD ?_
 refine s_mv ?_
 refine s_mv ?_
 refine s_eq ?_
 refine zD ?_
 refine zC ?_
 refine s_as ?_
 refine zf (zd ?_)
 refine zn F10 ?_ ?_<;>intro C22 F11
 refine zi (zY (zY (zd (za ?_))))
 refine s_mv ?_
 refine zE rfl ?_
 refine s_as ?_
 refine zf ?_
 exact s_rn (fu,(w64 (g3+1))) ⟨by first | omega | (dsimp only;omega),F11⟩
 refine zb (za ?_)
 refine s_as ?_
 refine zf (zd (zh (zj (zj (zg (zv (zj (zg (zo ?_)))))))))
 cases F11
 exact zk [] [] Tryz.results92
 iterate 10 refine r_no rfl ?_
 refine zD ?_
 refine s_as ?_
 refine zf (zd (zcC rfl (zb (za ?_))))
 refine s_as ?_
 refine zf (zd (zh (zj (zj (zg (zv (zj (zg (zo ?_)))))))))
 cases F9
 exact zk [] [] Tryz.results92
 refine zA (zr (zp (zu (zd (zb (za ?_))))))
 refine s_mv ?_
 refine s_lenS yU9 ?_
 obtain ⟨v23,V23,F5⟩:=zc F4
 refine zy [] (ze5 fu _ _ _ _ V23) ?_
 refine s_as ?_
 refine zf (zd (zh (zo ?_)))
 cases F5
 exact zk [] [] Tryz.results92
def m_impl_scopesOk_AC (fuel:Nat):Prop:=∀ (x1:(List Int)) (r:Bool),zdJ fuel x1=some r→AC Tryz.prog 93 [.t (.sl (x1.map rI))] noOb (.t (.sc (.bool r))) noOb
theorem zgQ (fuel:Nat):m_impl_scopesOk_AC fuel:=by
 intro x1 r F0
 unfold zdJ at F0
 refine AC_i [.t (.sc (.bool r))] Tryz.func93 rfl Tryz.ntmps93 ?_
 intro C hC
 refine zb (za ?_)
 refine s_as ?_
 refine zf (zd (zb (zb (za ?_))))
 refine s_mv ?_
 refine zB yU23 ?_
 refine s_mv ?_
 refine zf (zd (zl ?_))
 refine zaE (β:=Int) [2,3,4,7,8,9,10,11,12,13,14,15,16,17,18,19,20,21,22,23,24,25,26,27,28] [] [] (fun a=>[(7,.t (.sc (.int .i64 a.2)))]) (fun a=>[]) (fun a=>a.1≤fuel∧zbn a.1 x1 a.2=some r∧0≤a.2) (fuel,0) ⟨Nat.le_refl _,F0,by simp⟩ ?_
 clear F0
 rintro ⟨fu,g1⟩ ⟨hl2,F1,hn_g1⟩
 dsimp only at hl2 F1 hn_g1 ⊢
 obtain _ | fu:=fu
 · rw [zbn] at F1;cases F1
 rw [zbn] at F1
 refine zb (za ?_)
 refine s_lt ?_
 refine zf (zd (zb ?_))
 refine zn F1 ?_ ?_<;>intro C3 F2
 refine zH 0 (fun B4=>?_)
 refine zi (zd (zb (zl (zb (za ?_)))))
 refine s_mv ?_
 obtain ⟨v5,V5,F3⟩:=zc F2
 refine zN rI V5 rfl yE23 ?_
 refine zq yA3 ?_
 refine s_as ?_
 refine s_as ?_
 refine zf (zd (zb (za ?_)))
 refine s_mv ?_
 obtain ⟨v6,V6,F4⟩:=zc F3
 refine zy [] (ze5 fu _ _ _ _ V6) ?_
 refine zbh ?_
 refine s_mv ?_
 refine zx _ 15 F4 ?_ ?_<;>intro C7 F5
 iterate 11 refine r_no rfl ?_
 refine zC ?_
 refine zf (zd (zaa rfl (zb (za ?_))))
 refine s_as ?_
 refine zf (zd (zh (zj (zg (zv (zj (zg (zo ?_))))))))
 cases F5
 exact zk [] [] Tryz.results93
 refine s_mv ?_
 refine s_gt ?_
 refine s_mv ?_
 refine zx _ 18 F5 ?_ ?_<;>intro C8 F6
 refine s_mv ?_
 refine s_mv ?_
 refine zfZ rfl ?_
 obtain ⟨v9,V9,F7⟩:=zc F6
 refine zN rI V9 rfl yE23 ?_
 refine zq yA3 ?_
 refine s_mv ?_
 refine s_ge ?_
 refine zC ?_
 refine zD ?_
 refine zf (zd ?_)
 refine zn F7 ?_ ?_<;>intro C10 F8
 refine zb (za ?_)
 refine s_as ?_
 refine zf (zd (zh (zj (zg (zv (zj (zg (zo ?_))))))))
 cases F8
 exact zk [] [] Tryz.results93
 refine zi (zY (zd (za ?_)))
 refine zE (zaF C3 B4 hn_g1) ?_
 refine s_mv ?_
 refine zf ?_
 exact s_rn (fu,(g1+1)) ⟨by first | omega | (dsimp only;omega),F8,by first | omega | (dsimp only;omega)⟩
 iterate 7 refine r_no rfl ?_
 refine zD ?_
 refine zD ?_
 refine zf (zd (zcC rfl (zi (zY (zd (za ?_))))))
 refine zE (zaF C3 B4 hn_g1) ?_
 refine s_mv ?_
 refine zf ?_
 exact s_rn (fu,(g1+1)) ⟨by first | omega | (dsimp only;omega),F6,by first | omega | (dsimp only;omega)⟩
 refine zA (zr (zp (zu (zd (zb (za ?_))))))
 refine s_mv ?_
 refine zB yU23 ?_
 refine s_le ?_
 refine s_as ?_
 refine zf (zd (zh (zo ?_)))
 cases F2
 exact zk [] [] Tryz.results93
def m_slices_Equal_int_AC (fuel:Nat):Prop:=∀ (x1:(List Int)) (x2:(List Int)) (r:Bool),zcE fuel x1 x2=some r→AC Tryz.prog 97 [.t (.sl (x1.map rI)),.t (.sl (x2.map rI))] noOb (.t (.sc (.bool r))) noOb
theorem zf2 (fuel:Nat):m_slices_Equal_int_AC fuel:=by
 intro x1 x2 r F0
 unfold zcE at F0
 refine AC_i [.t (.sc (.bool r))] Tryz.func97 rfl Tryz.ntmps97 ?_
 intro C hC
 refine zb (za ?_)
 refine s_as ?_
 refine zf (zd (zb (zb (za ?_))))
 refine s_mv ?_
 refine zB yU23 ?_
 refine s_mv ?_
 refine zB yU23 ?_
 refine s_ne ?_
 refine zf (zd ?_)
 refine zn F0 ?_ ?_<;>intro C1 F1
 refine zb (za ?_)
 refine s_as ?_
 refine zf (zd (zh (zg (zo ?_))))
 cases F1
 exact zk [] [] Tryz.results97
 refine zi (zd (zb (zb (za ?_))))
 refine s_mv ?_
 refine zB yU23 ?_
 refine s_mv ?_
 refine zf (zd (zl ?_))
 refine zaE (β:=Int) [4,5,13,14,15,16,17,18,19,20,21,22,23,24,25] [] [] (fun a=>[(13,.t (.sc (.int .i64 a.2)))]) (fun a=>[]) (fun a=>a.1≤fuel∧zbt a.1 x1 x2 a.2=some r∧0≤a.2) (fuel,0) ⟨Nat.le_refl _,F1,by simp⟩ ?_
 clear F1
 rintro ⟨fu,g2⟩ ⟨hl3,F2,hn_g2⟩
 dsimp only at hl3 F2 hn_g2 ⊢
 obtain _ | fu:=fu
 · rw [zbt] at F2;cases F2
 rw [zbt] at F2
 refine zb (za ?_)
 refine s_lt ?_
 refine zf (zd (zb ?_))
 refine zn F2 ?_ ?_<;>intro C4 F3
 refine zH 0 (fun B5=>?_)
 refine zi (zd (zb (zl (zb (za ?_)))))
 refine s_mv ?_
 refine s_as ?_
 refine zf (zd (zb ?_))
 refine zP yMix (by kernel_rfl) ?_
 refine s_mv ?_
 refine s_mv ?_
 obtain ⟨v6,V6,F4⟩:=zc F3
 refine zN rI V6 rfl yE23 ?_
 refine zq yA3 ?_
 refine s_mv ?_
 refine s_mv ?_
 obtain ⟨v7,V7,F5⟩:=zc F4
 refine zN rI V7 rfl yE23 ?_
 refine zq yA3 ?_
 refine s_ne ?_
 refine zai (by kernel_rfl) ?_
 refine zd ?_
 refine zn F5 ?_ ?_<;>intro C8 F6
 refine zb (za ?_)
 refine s_as ?_
 refine zf (zd (zh (zj (zg (zv (zj (zg (zo ?_))))))))
 cases F6
 exact zk [] [] Tryz.results97
 refine zi (zY (zd (za ?_)))
 refine zE (zaF C4 B5 hn_g2) ?_
 refine s_mv ?_
 refine zf ?_
 exact s_rn (fu,(g2+1)) ⟨by first | omega | (dsimp only;omega),F6,by first | omega | (dsimp only;omega)⟩
 refine zA (zr (zp (zu (zd (zb (za ?_))))))
 refine s_as ?_
 refine zf (zd (zh (zo ?_)))
 cases F3
 exact zk [] [] Tryz.results97
def m_impl_BindsValid_1_AC (fuel:Nat):Prop:=∀ (x1:Bind) (o1:Bind) (r:Bool),zc4 fuel x1 o1=some r→AC Tryz.prog 96 [.ag [.t (.sc (.str x1.name)),.t (.sl (x1.scopes.map rI)),.t (.sc (.int .i64 x1.id))],.rf 9000 0] (objs [(9000,.box [.t (.sc (.str o1.name)),.t (.sl (o1.scopes.map rI)),.t (.sc (.int .i64 o1.id))])]) (.t (.sc (.bool r))) (objs [(9000,.box [.t (.sc (.str o1.name)),.t (.sl (o1.scopes.map rI)),.t (.sc (.int .i64 o1.id))])])
theorem m_impl_BindsValid_1_ok (fuel:Nat):m_impl_BindsValid_1_AC fuel:=by
 intro x1 o1 r F0
 unfold zc4 at F0
 refine AC_i [.t (.sc (.bool r))] Tryz.func96 rfl Tryz.ntmps96 ?_
 intro C hC
 refine zb (za ?_)
 refine zbo ?_
 refine s_as ?_
 refine zf (zd (zb (za ?_)))
 refine s_fa zgX ?_
 refine zq yA9 ?_
 refine s_fa zgX ?_
 refine zq yA9 ?_
 refine zgj ?_
 refine s_mv ?_
 refine zx _ 9 F0 ?_ ?_<;>intro C1 F1
 refine s_fa zfY ?_
 refine zq yA23 ?_
 refine s_fa zfY ?_
 refine zq yA23 ?_
 obtain ⟨v2,V2,F2⟩:=zc F1
 refine zy [] (zf2 fuel _ _ _ V2) ?_
 refine zC ?_
 refine s_as ?_
 refine zf (zd (zh (zo ?_)))
 cases F2
 exact zk _ [] Tryz.results96
 iterate 5 refine r_no rfl ?_
 refine zD ?_
 refine s_as ?_
 refine zf (zd (zh (zo ?_)))
 cases F1
 exact zk _ [] Tryz.results96
def zet (fuel:Nat):Prop:=∀ (x1:(List Bind)) (o1:Bind) (r:Int),zaR fuel x1 o1=some r→AC Tryz.prog 131 [.t (.sl (x1.map Bind.row)),.fn 96 [.rf 9000 0]] (objs [(9000,.box [.t (.sc (.str o1.name)),.t (.sl (o1.scopes.map rI)),.t (.sc (.int .i64 o1.id))])]) (.t (.sc (.int .i64 r))) (objs [(9000,.box [.t (.sc (.str o1.name)),.t (.sl (o1.scopes.map rI)),.t (.sc (.int .i64 o1.id))])])
theorem zes (fuel:Nat):zet fuel:=by
 intro x1 o1 r F0
 unfold zaR at F0
 refine AC_i [.t (.sc (.int .i64 r))] Tryz.func131 rfl Tryz.ntmps131 ?_
 intro C hC
 refine zb (za ?_)
 refine s_as ?_
 refine zf (zd (zb (zb (za ?_))))
 refine s_mv ?_
 refine zB yU33 ?_
 refine s_mv ?_
 refine zf (zd (zl ?_))
 refine zaE (β:=Int) [4,5,8,9,10,11,12,13,14,15,16,17,18] [] [] (fun a=>[(8,.t (.sc (.int .i64 a.2)))]) (fun a=>[]) (fun a=>a.1≤fuel∧zO a.1 x1 o1 a.2=some r∧0≤a.2) (fuel,0) ⟨Nat.le_refl _,F0,by simp⟩ ?_
 clear F0
 rintro ⟨fu,g1⟩ ⟨hl2,F1,hn_g1⟩
 dsimp only at hl2 F1 hn_g1 ⊢
 obtain _ | fu:=fu
 · rw [zO] at F1;cases F1
 rw [zO] at F1
 refine zb (za ?_)
 refine s_lt ?_
 refine zf (zd (zb ?_))
 refine zn F1 ?_ ?_<;>intro C3 F2
 refine zH 0 (fun B4=>?_)
 refine zi (zd (zb (zl (zb (za ?_)))))
 refine s_mv ?_
 refine s_as ?_
 refine zf (zd (zb (za ?_)))
 iterate 3 refine s_mv ?_
 obtain ⟨v5,V5,F3⟩:=zc F2
 refine zN Bind.row V5 (Bind.row_eq _) yE33 ?_
 refine zaI yA83 yS83 ?_
 obtain ⟨v6,V6,F4⟩:=zc F3
 refine zT [(9000,9000)] [] _ _ (m_impl_BindsValid_1_ok fu _ _ _ V6) ?_
 refine zf (zd ?_)
 refine zn F4 ?_ ?_<;>intro C7 F5
 refine zb (za ?_)
 refine s_mv ?_
 refine s_as ?_
 refine zf (zd (zh (zj (zg (zv (zj (zg (zo ?_))))))))
 cases F5
 exact zk _ [] Tryz.results131
 refine zi (zY (zd (za ?_)))
 refine zE (zaF C3 B4 hn_g1) ?_
 refine s_mv ?_
 refine zf ?_
 exact s_rn (fu,(g1+1)) ⟨by first | omega | (dsimp only;omega),F5,by first | omega | (dsimp only;omega)⟩
 refine zA (zr (zp (zu (zd (zb (za ?_))))))
 refine s_as ?_
 refine zf (zd (zh (zo ?_)))
 cases F2
 exact zk _ [] Tryz.results131
end Go.Abs
