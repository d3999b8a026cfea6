/- A part of the proof: what the functions that the law calls answer, as pure values. -/
import Derived.Test.YtcebadpiebamdaaGreatK006dda84d553
import Derived.Test.YtcebadpiebamdaaGreatK863b9396a6d1
import Derived.Test.YtcebadpiebamdaaGreatK9fbfde43654d
import Derived.Test.YtcebadpiebamdaaGreatKc219dfa2b982
import Derived.Test.YtcebadpiebamdaaGreatK0c09c3f6594f
set_option linter.unusedSimpArgs false
set_option linter.unusedVariables false
set_option maxRecDepth 100000
set_option maxHeartbeats 4000000
namespace Go.Abs
open Go.Proofs
def m_impl_bound_AC (fuel:Nat):Prop:=∀ (x1:(List Bind)) (x2:Form) (r:(Int × Int)),zf4 fuel x1 x2=some r→AC Tryz.prog 160 [.t (.sl (x1.map Bind.row)),.ag [.t (.sc (.int .i64 x2.kind)),.t (.sc (.str x2.name)),.t (.sc (.int .i64 x2.n)),.t (.sl (x2.scopes.map rI)),.t (.sl (x2.kids.map Form.row))]] noOb (.tp [.t (.sc (.int .i64 r.1)),.t (.sc (.int .i64 r.2))]) noOb
theorem m_impl_bound_ok (fuel:Nat):m_impl_bound_AC fuel:=by
 intro x1 x2 r F0
 unfold zf4 at F0
 refine AC_i [.t (.sc (.int .i64 r.1)),.t (.sc (.int .i64 r.2))] Tryz.func160 rfl Tryz.ntmps160 ?_
 intro C hC
 refine zb (za ?_)
 refine zbo ?_
 refine zbo ?_
 refine s_as ?_
 refine s_as ?_
 refine zf (zd (zb (za ?_)))
 refine zq yA33 ?_
 refine z6 yA37 yS37 ?_
 obtain ⟨v1,V1,F1⟩:=zc F0
 refine zy [] (m_impl_fitting_ok fuel _ _ _ V1) ?_
 refine s_as ?_
 refine zf (zd (zb (zb (za ?_))))
 refine s_mv ?_
 refine zB yU23 ?_
 refine s_eq ?_
 refine zf (zd ?_)
 refine zn F1 ?_ ?_<;>intro C2 F2
 refine zb (za ?_)
 refine s_as ?_
 refine s_as ?_
 refine zf (zd (zh (zg (zo ?_))))
 cases F2
 exact zk [] [] Tryz.results160
 refine zi (zd (zb (zb (za ?_))))
 refine s_mv ?_
 refine zB yU23 ?_
 refine s_mv ?_
 refine zf (zd (zl ?_))
 refine zaE (β:=Int) [4,5,8,17,18,19,20,21,22,23,24,25,26] [] [8] (fun a=>[(17,.t (.sc (.int .i64 a.2)))]) (fun a=>[]) (fun a=>a.1≤fuel∧zcA a.1 x1 v1 a.2=some r∧0≤a.2) (fuel,0) ⟨Nat.le_refl _,F2,by simp⟩ ?_
 clear F2
 rintro ⟨fu,g3⟩ ⟨hl4,F3,hn_g3⟩
 dsimp only at hl4 F3 hn_g3 ⊢
 obtain _ | fu:=fu
 · rw [zcA] at F3;cases F3
 rw [zcA] at F3
 refine zb (za ?_)
 refine s_lt ?_
 refine zf (zd (zb ?_))
 refine zn F3 ?_ ?_<;>intro C5 F4
 refine zH 6 (fun B6=>?_)
 refine zi (zd (zb (zl (zb (za ?_)))))
 obtain ⟨v7,V7,F5⟩:=zc F4
 refine zN rI V7 rfl yE23 ?_
 refine zq yA3 ?_
 refine zaN yZ3 ?_
 refine zde yS3 ?_
 refine zf (zd (zb (za ?_)))
 refine s_mv ?_
 refine s_fn ?_
 obtain ⟨v8,V8,F6⟩:=zc F5
 refine zT [(9000,2),(9001,8)] [] _ _ (zeP fu _ _ _ _ V8) ?_
 refine zbh ?_
 refine zf (zd ?_)
 refine zn F6 ?_ ?_<;>intro C9 F7
 refine zb (za ?_)
 refine zq yA3 ?_
 refine s_as ?_
 refine s_as ?_
 refine zf (zd (zh (zj (zg (zv (zj (zg (zo ?_))))))))
 cases F7
 exact zk [] [] Tryz.results160
 refine zi (zY (zd (za ?_)))
 refine zE (zaF C5 B6 hn_g3) ?_
 refine s_mv ?_
 refine zf ?_
 exact s_rn (fu,(g3+1)) ⟨by first | omega | (dsimp only;omega),F7,by first | omega | (dsimp only;omega)⟩
 refine zA (zr (zp (zu (zd (zb (za ?_))))))
 refine s_as ?_
 refine s_as ?_
 refine zf (zd (zh (zo ?_)))
 cases F4
 exact zk [] [] Tryz.results160
def m_impl_FindName_AC (fuel:Nat):Prop:=∀ (x1:(List Bind)) (x2:Form) (r:(Int × Int)),zdN fuel x1 x2=some r→AC Tryz.prog 136 [.t (.sl (x1.map Bind.row)),.ag [.t (.sc (.int .i64 x2.kind)),.t (.sc (.str x2.name)),.t (.sc (.int .i64 x2.n)),.t (.sl (x2.scopes.map rI)),.t (.sl (x2.kids.map Form.row))]] noOb (.tp [.t (.sc (.int .i64 r.1)),.t (.sc (.int .i64 r.2))]) noOb
theorem zgR (fuel:Nat):m_impl_FindName_AC fuel:=by
 intro x1 x2 r F0
 unfold zdN at F0
 refine AC_i [.t (.sc (.int .i64 r.1)),.t (.sc (.int .i64 r.2))] Tryz.func136 rfl Tryz.ntmps136 ?_
 intro C hC
 refine zb (za ?_)
 refine zbo ?_
 refine s_as ?_
 refine s_as ?_
 refine zf (zd (zb ?_))
 refine zdr (α:=Nat × Bool) [8,9,10,11,12,13,14,15] [] [] (fun a=>[(15,.t (.sc (.bool a.2)))]) (fun a=>[]) (fun a=>a.1≤fuel∧zcF a.1 x1 x2 a.2=some r) ?_ ?_
 refine za ?_
 refine s_mv ?_
 obtain ⟨v1,V1,F1⟩:=zc F0
 refine zy [] (zdz fuel _ _ V1) ?_
 refine zbh ?_
 refine s_mv ?_
 refine zx _ 11 F1 ?_ ?_<;>intro C2 F2
 iterate 3 refine r_no rfl ?_
 refine zC ?_
 refine zf ?_
 exact s_jn (fuel,true) ⟨by first | omega | (dsimp only;omega),F2⟩
 refine z6 yA37 yS37 ?_
 obtain ⟨v3,V3,F3⟩:=zc F2
 refine zy [] (ze6 fuel _ _ V3) ?_
 refine zbh ?_
 refine zD ?_
 refine zf ?_
 exact s_jn (fuel,(!v3)) ⟨by first | omega | (dsimp only;omega),F3⟩
 clear F0
 rintro ⟨fu,g4⟩ ⟨hl5,F1⟩
 dsimp only at hl5 F1 ⊢
 obtain _ | fu:=fu
 · rw [zcF] at F1;cases F1
 rw [zcF] at F1
 refine zn F1 ?_ ?_<;>intro C6 F2
 refine zb (za ?_)
 refine s_as ?_
 refine s_as ?_
 refine zf (zd (zh (zg (zo ?_))))
 cases F2
 exact zk [] [] Tryz.results136
 refine zi (zd (zb (za ?_)))
 refine s_mv ?_
 refine z6 yA37 yS37 ?_
 obtain ⟨v7,V7,F3⟩:=zc F2
 refine zy [] (m_impl_bound_ok fu _ _ _ V7) ?_
 refine s_mv ?_
 refine zdv ?_
 refine zdv ?_
 refine s_as ?_
 refine s_as ?_
 refine zf (zd (zb (zb (za ?_))))
 refine s_mv ?_
 refine s_ne ?_
 refine zf (zd ?_)
 refine zn F3 ?_ ?_<;>intro C8 F4
 refine zb (za ?_)
 refine s_mv ?_
 refine s_as ?_
 refine s_as ?_
 refine zf (zd (zh (zg (zo ?_))))
 cases F4
 exact zk [] [] Tryz.results136
 refine zi (zd (zb (za ?_)))
 refine s_mv ?_
 refine s_mv ?_
 obtain ⟨v9,V9,F5⟩:=zc F4
 refine zN Bind.row V9 (Bind.row_eq _) yE33 ?_
 refine s_fa yF83_2 ?_
 refine zq yA3 ?_
 refine s_as ?_
 refine s_as ?_
 refine zf (zd (zh (zo ?_)))
 cases F5
 exact zk [] [] Tryz.results136
def zhl (fuel:Nat):Prop:=∀ (x1:(List Bind)) (x2:Form) (x3:Form) (r:Bool),zcR fuel x1 x2 x3=some r→AC Tryz.prog 104 [.t (.sl (x1.map Bind.row)),.ag [.t (.sc (.int .i64 x2.kind)),.t (.sc (.str x2.name)),.t (.sc (.int .i64 x2.n)),.t (.sl (x2.scopes.map rI)),.t (.sl (x2.kids.map Form.row))],.ag [.t (.sc (.int .i64 x3.kind)),.t (.sc (.str x3.name)),.t (.sc (.int .i64 x3.n)),.t (.sl (x3.scopes.map rI)),.t (.sl (x3.kids.map Form.row))]] noOb (.t (.sc (.bool r))) noOb
theorem zfA (fuel:Nat):zhl fuel:=by
 intro x1 x2 x3 r F0
 unfold zcR at F0
 refine AC_i [.t (.sc (.bool r))] Tryz.func104 rfl Tryz.ntmps104 ?_
 intro C hC
 refine zb (za ?_)
 refine zbo ?_
 refine zbo ?_
 refine s_as ?_
 refine zf (zd (zb ?_))
 refine zdr (α:=Nat × Bool) [11,12,13,14,15,16,17,18,19,20,21,22,23] [] [] (fun a=>[(23,.t (.sc (.bool a.2)))]) (fun a=>[]) (fun a=>a.1≤fuel∧zak a.1 x1 x2 x3 a.2=some r) ?_ ?_
 refine za ?_
 refine s_mv ?_
 obtain ⟨v1,V1,F1⟩:=zc F0
 refine zy [] (zdz fuel _ _ V1) ?_
 refine zbh ?_
 refine s_mv ?_
 refine zx _ 14 F1 ?_ ?_<;>intro C2 F2
 iterate 3 refine r_no rfl ?_
 refine zC ?_
 refine s_mv ?_
 iterate 3 refine r_no rfl ?_
 refine zC ?_
 refine zf ?_
 exact s_jn (fuel,true) ⟨by first | omega | (dsimp only;omega),F2⟩
 refine z6 yA37 yS37 ?_
 obtain ⟨v3,V3,F3⟩:=zc F2
 refine zy [] (ze6 fuel _ _ V3) ?_
 refine zbh ?_
 refine zD ?_
 refine s_mv ?_
 refine zx _ 19 F3 ?_ ?_<;>intro C4 F4
 iterate 3 refine r_no rfl ?_
 refine zC ?_
 refine zf ?_
 exact s_jn (fuel,true) ⟨by first | omega | (dsimp only;omega),F4⟩
 refine z6 yA37 yS37 ?_
 obtain ⟨v5,V5,F5⟩:=zc F4
 refine zy [] (ze6 fuel _ _ V5) ?_
 refine zbh ?_
 refine zD ?_
 refine zf ?_
 exact s_jn (fuel,(!v5)) ⟨by first | omega | (dsimp only;omega),F5⟩
 clear F0
 rintro ⟨fu,g6⟩ ⟨hl7,F1⟩
 dsimp only at hl7 F1 ⊢
 obtain _ | fu:=fu
 · rw [zak] at F1;cases F1
 rw [zak] at F1
 refine zn F1 ?_ ?_<;>intro C8 F2
 refine zb (za ?_)
 refine s_as ?_
 refine zf (zd (zh (zg (zo ?_))))
 cases F2
 exact zk [] [] Tryz.results104
 refine zi (zd (zb (za ?_)))
 refine s_mv ?_
 refine z6 yA37 yS37 ?_
 obtain ⟨v9,V9,F3⟩:=zc F2
 refine zy [] (zgR fu _ _ _ V9) ?_
 refine s_mv ?_
 refine zdv ?_
 refine zdv ?_
 refine s_as ?_
 refine s_as ?_
 refine zf (zd (zb (za ?_)))
 refine s_mv ?_
 refine z6 yA37 yS37 ?_
 obtain ⟨v10,V10,F4⟩:=zc F3
 refine zy [] (zgR fu _ _ _ V10) ?_
 refine s_mv ?_
 refine zdv ?_
 refine zdv ?_
 refine s_as ?_
 refine s_as ?_
 refine zf (zd (zb (za ?_)))
 refine s_mv ?_
 refine s_eq ?_
 refine s_mv ?_
 refine zx _ 38 F4 ?_ ?_<;>intro C11 F5
 refine s_mv ?_
 refine s_eq ?_
 refine zC ?_
 refine s_mv ?_
 refine zx _ 42 F5 ?_ ?_<;>intro C12 F6
 refine s_mv ?_
 refine s_mv ?_
 refine s_eq ?_
 refine zC ?_
 refine s_mv ?_
 refine zx _ 47 F6 ?_ ?_<;>intro C13 F7
 iterate 13 refine r_no rfl ?_
 refine zC ?_
 refine s_as ?_
 refine zf (zd (zh (zo ?_)))
 cases F7
 exact zk [] [] Tryz.results104
 refine s_mv ?_
 refine s_eq ?_
 refine s_mv ?_
 refine zx _ 50 F7 ?_ ?_<;>intro C14 F8
 refine s_mv ?_
 refine s_eq ?_
 refine zC ?_
 refine s_mv ?_
 refine zx _ 54 F8 ?_ ?_<;>intro C15 F9
 refine s_fa zbC ?_
 refine zq yA9 ?_
 refine s_fa zbC ?_
 refine zq yA9 ?_
 refine zgj ?_
 refine zC ?_
 refine zD ?_
 refine s_as ?_
 refine zf (zd (zh (zo ?_)))
 cases F9
 exact zk [] [] Tryz.results104
 iterate 5 refine r_no rfl ?_
 refine zD ?_
 refine zD ?_
 refine s_as ?_
 refine zf (zd (zh (zo ?_)))
 cases F9
 exact zk [] [] Tryz.results104
 refine r_no rfl (r_no rfl ?_)
 refine zD ?_
 refine s_mv ?_
 iterate 5 refine r_no rfl ?_
 refine zD ?_
 refine zD ?_
 refine s_as ?_
 refine zf (zd (zh (zo ?_)))
 cases F8
 exact zk [] [] Tryz.results104
 iterate 3 refine r_no rfl ?_
 refine zD ?_
 refine s_mv ?_
 refine s_mv ?_
 refine s_eq ?_
 refine s_mv ?_
 refine zx _ 50 F6 ?_ ?_<;>intro C16 F7
 refine s_mv ?_
 refine s_eq ?_
 refine zC ?_
 refine s_mv ?_
 refine zx _ 54 F7 ?_ ?_<;>intro C17 F8
 refine s_fa zbC ?_
 refine zq yA9 ?_
 refine s_fa zbC ?_
 refine zq yA9 ?_
 refine zgj ?_
 refine zC ?_
 refine zD ?_
 refine s_as ?_
 refine zf (zd (zh (zo ?_)))
 cases F8
 exact zk [] [] Tryz.results104
 iterate 5 refine r_no rfl ?_
 refine zD ?_
 refine zD ?_
 refine s_as ?_
 refine zf (zd (zh (zo ?_)))
 cases F8
 exact zk [] [] Tryz.results104
 refine r_no rfl (r_no rfl ?_)
 refine zD ?_
 refine s_mv ?_
 iterate 5 refine r_no rfl ?_
 refine zD ?_
 refine zD ?_
 refine s_as ?_
 refine zf (zd (zh (zo ?_)))
 cases F7
 exact zk [] [] Tryz.results104
 refine r_no rfl (r_no rfl ?_)
 refine zD ?_
 refine s_mv ?_
 iterate 3 refine r_no rfl ?_
 refine zD ?_
 refine s_mv ?_
 refine s_mv ?_
 refine s_eq ?_
 refine s_mv ?_
 refine zx _ 50 F5 ?_ ?_<;>intro C18 F6
 refine s_mv ?_
 refine s_eq ?_
 refine zC ?_
 refine s_mv ?_
 refine zx _ 54 F6 ?_ ?_<;>intro C19 F7
 refine s_fa zbC ?_
 refine zq yA9 ?_
 refine s_fa zbC ?_
 refine zq yA9 ?_
 refine zgj ?_
 refine zC ?_
 refine zD ?_
 refine s_as ?_
 refine zf (zd (zh (zo ?_)))
 cases F7
 exact zk [] [] Tryz.results104
 iterate 5 refine r_no rfl ?_
 refine zD ?_
 refine zD ?_
 refine s_as ?_
 refine zf (zd (zh (zo ?_)))
 cases F7
 exact zk [] [] Tryz.results104
 refine r_no rfl (r_no rfl ?_)
 refine zD ?_
 refine s_mv ?_
 iterate 5 refine r_no rfl ?_
 refine zD ?_
 refine zD ?_
 refine s_as ?_
 refine zf (zd (zh (zo ?_)))
 cases F6
 exact zk [] [] Tryz.results104
def zhk (fuel:Nat):Prop:=∀ (x1:(List Int)) (r:(List Int)),zb4 fuel x1=some r→AC Tryz.prog 137 [.t (.sl (x1.map rI))] (objs []) (.ar 9200) (objs [(9200,.arr (r.map rI) 3 true)])
theorem zhj (fuel:Nat):zhk fuel:=by
 intro x1 r F0
 unfold zb4 at F0
 refine AC_i [.ar 9200] Tryz.func137 rfl Tryz.ntmps137 ?_
 intro C hC
 refine awp_nil 0 (fun hz=>?_) ?_
 replace hz:=List.map_eq_nil_iff.mp hz;subst hz;obtain ⟨_,F1⟩:=zat F0
 refine zb (za ?_)
 refine s_as ?_
 refine zf (zd (zb (zb (za ?_))))
 refine s_mv ?_
 refine s_nil yU23 ?_
 refine zf (zd (zaa rfl ?_))
 refine zf7 0 ?_
 refine zf7 3 ?_
 refine zb (za ?_)
 refine s_as ?_
 refine zf (zd ?_)
 refine zfT 2 9200 3 yI3.choose_spec ?_
 refine zh (zg (zo ?_))
 cases F1
 exact zk _ [] Tryz.results137
 refine zb (za ?_)
 refine s_as ?_
 refine zf (zd (zb (zb (za ?_))))
 refine s_mv ?_
 refine s_nil yU23 ?_
 refine zf (zd (zcC rfl ?_))
 refine zf7 0 ?_
 refine zf7 3 ?_
 refine zi (zd (zb (za ?_)))
 refine s_bs rI ([]:List Int) yP23 yR3 ?_
 refine s_mv ?_
 obtain ⟨hk1,F1⟩:=zat F0
 refine zgC rI (fun _=>rfl) hk1 yP23 ?_
 refine s_as ?_
 refine zf (zd ?_)
 refine zeY 2 7 9200 (by conv=>lhs;whnf) (by conv=>lhs;whnf) rfl ?_
 refine zh (zo ?_)
 cases F1
 exact zk _ [] Tryz.results137
def zdy (fuel:Nat):Prop:=∀ (x1:Form) (r:Form),zaD fuel x1=some r→AC Tryz.prog 105 [.ag [.t (.sc (.int .i64 x1.kind)),.t (.sc (.str x1.name)),.t (.sc (.int .i64 x1.n)),.t (.sl (x1.scopes.map rI)),.t (.sl (x1.kids.map Form.row))]] (objs []) (.ag [.t (.sc (.int .i64 r.kind)),.t (.sc (.str r.name)),.t (.sc (.int .i64 r.n)),.ar 9203,.ar 9204]) (objs [(9203,.arr (r.scopes.map rI) 3 true),(9204,.dar (r.kids.map (Form.rowD 3 37)) 37)])
theorem m_impl_copyForm_D_st (fu:Nat) (ih_m_impl_copyForm_D:∀ k,k≤fu→zdy k):zdy (fu+1):=by
 intro x1 r F0
 rw [zaD] at F0
 refine AC_i [.ag [.t (.sc (.int .i64 r.kind)),.t (.sc (.str r.name)),.t (.sc (.int .i64 r.n)),.ar 9203,.ar 9204]] Tryz.func105 rfl Tryz.ntmps105 ?_
 intro C hC
 refine zb (za ?_)
 refine zbo ?_
 refine zaN yZ37 ?_
 refine zf (zd (zb ?_))
 refine zP yMix (by kernel_rfl) ?_
 refine s_fa zcD ?_
 refine zq yA3 ?_
 refine s_fa zbC ?_
 refine zq yA9 ?_
 refine s_fa zeg ?_
 refine zq yA3 ?_
 refine s_fa zdR ?_
 refine zq yA23 ?_
 obtain ⟨v1,V1,F1⟩:=zc F0
 refine zT [(9200,2014)] [] _ _ (zhj fu _ _ V1) ?_
 refine s_bld yZ37 yL37 ?_
 refine zaN yZ37 ?_
 refine zde yS37 ?_
 refine zai (by kernel_rfl) ?_
 refine zd (zb (zb (za ?_)))
 refine s_fa zJ ?_
 refine zq yA35 ?_
 refine zB yU35 ?_
 refine s_mv ?_
 refine zf (zd (zl ?_))
 refine awp_ownB 3 5020 37 [.t (.sc (.int .i64 x1.kind)),.t (.sc (.str x1.name)),.t (.sc (.int .i64 x1.n)),.ar 2014,.ar 5020] yI37.choose_spec ?_
 refine zeN 5020 (Form.rowD 3 37) (es:=([]:List Form).map Form.row) (by (conv=>lhs;whnf)<;>rfl) rfl ?_
 refine zap [5,19,20,21,22,23,24,25,26,27,28,29,30] [3,5020] [5,27,28,2026,12026] [5020] (fun a:Nat × Int × (List Form)=>a.1) (fun a:Nat × Int × (List Form)=>[(19,.t (.sc (.int .i64 a.2.1)))]) (fun a:Nat × Int × (List Form)=>[(3,.box [.t (.sc (.int .i64 x1.kind)),.t (.sc (.str x1.name)),.t (.sc (.int .i64 x1.n)),.ar 2014,.ar 5020]),(5020,.dar (a.2.2.map (Form.rowD 3 37)) 37)]) (fun a:Nat × Int × (List Form)=>a.1≤fu∧zaU a.1 x1 v1 a.2.1 a.2.2=some r∧0≤a.2.1) (fu,0,([]:List Form)) ⟨Nat.le_refl _,F1,by simp⟩ (by rfl) (by rfl) (fun _=>rfl) (zZ (by conv=>lhs;whnf) (by rfl) zbP) (zQ (by conv=>lhs;whnf) (by rfl) (zQ (by conv=>lhs;whnf) (by rfl) zbp)) (zcP hC rfl) (by repeat (first | exact zah rfl | refine zaA rfl ?_ | refine zab rfl ?_)) (by repeat (first | exact za5 | exact zal rfl | refine zaB rfl ?_ | refine zac rfl ?_)) ?_
 clear F1
 rintro ⟨fu,g2,g3⟩ ⟨hl4,F2,hn_g2⟩
 dsimp only at hl4 F2 hn_g2 ⊢
 obtain _ | fu:=fu
 · rw [zaU] at F2;cases F2
 rw [zaU] at F2
 refine zb (za ?_)
 refine s_lt ?_
 refine zf (zd (zb ?_))
 refine zn F2 ?_ ?_<;>intro C5 F3
 refine zH 17 (fun B6=>?_)
 refine zi (zd (zb (zl (zb (za ?_)))))
 obtain ⟨v7,V7,F4⟩:=zc F3
 refine zN Form.row V7 (Form.row_eq _) yE35 ?_
 refine zaI yA37 yS37 ?_
 refine zaN yZ37 ?_
 refine zde yS37 ?_
 refine zf (zd ?_)
 refine zP yMix (by kernel_rfl) ?_
 refine s_fa zJ ?_
 refine zq yA35 ?_
 refine z6 yA37 yS37 ?_
 obtain ⟨v8,V8,F5⟩:=zc F4
 refine zT [(9203,2026),(9204,12026)] [] _ _ (ih_m_impl_copyForm_D fu (by omega) _ _ V8) ?_
 refine s_bsD [.sc (.int .i64 v8.kind),.sc (.str v8.name),.sc (.int .i64 v8.n),.any,.any] [(0,3,2026),(0,4,12026)] yP35 ?_
 obtain ⟨hk9,F6⟩:=zat F5
 refine s_apH (Form.rowD 3 37) [(g3.length,3,2026),(g3.length,4,12026)] hk9 yP35 ?_
 refine s_fa zJ ?_
 refine zgT yS35 ?_
 refine zai (by kernel_rfl) ?_
 refine zY (zd ?_)
 refine awp_jaA 28 2026 [.sc (.int .i64 v8.kind),.sc (.str v8.name),.sc (.int .i64 v8.n),.ow 3 (v8.scopes.map rI),.any] ?_
 refine zho 28 12026 [.sc (.int .i64 v8.kind),.sc (.str v8.name),.sc (.int .i64 v8.n),.ow 3 (v8.scopes.map rI),.ow 37 (v8.kids.map (Form.rowD 3 37))] ?_
 refine awp_naH 28 (row:=(Form.rowD 3 37)) (fs:=[.sc (.int .i64 v8.kind),.sc (.str v8.name),.sc (.int .i64 v8.n),.ow 3 (v8.scopes.map rI),.ow 37 (v8.kids.map (Form.rowD 3 37))]) v8 (Form.rowDE _ _ _) ?_
 refine za ?_
 refine zE (zaF C5 B6 hn_g2) ?_
 refine s_mv ?_
 refine zf ?_
 exact s_rn (fu,(g2+1),(g3++[v8])) ⟨by first | omega | (dsimp only;omega),F6,by first | omega | (dsimp only;omega)⟩ [(5020,28)]
 refine zA (zr (zp (zu (zd (zb (za ?_))))))
 refine z6 yA37 yS37 ?_
 refine zde yS37 ?_
 refine zf (zd ?_)
 refine zez 2 2014 9203 [.t (.sc (.int .i64 x1.kind)),.t (.sc (.str x1.name)),.t (.sc (.int .i64 x1.n)),.ar 9203,.ar 5020] ?_
 refine awp_mvBO 2 5020 9204 [.t (.sc (.int .i64 x1.kind)),.t (.sc (.str x1.name)),.t (.sc (.int .i64 x1.n)),.ar 9203,.ar 9204] ?_
 refine zh (zo ?_)
 cases F3
 exact zgl _ [] (by rw [Tryz.results105];exact (res_agg (by conv=>lhs;whnf) (by conv=>lhs;whnf) yA37 yS37 rfl zfp))
theorem m_impl_copyForm_D_all (fuel:Nat):zdy fuel:=by
 induction fuel using Nat.strongRecOn with
 | _ N ih =>
   cases N with
   | zero=>exact (by intro x1 r h;rw [zaD] at h;cases h)
   | succ fu=>exact m_impl_copyForm_D_st fu (fun k hk=>(ih k (by omega)))
theorem zeM (fuel:Nat):zdy fuel:=(m_impl_copyForm_D_all fuel)
def zdZ (fuel:Nat):Prop:=∀ (x1:Form) (x2:Form) (o1:(List Bind)) (o2:(List Form)) (o3:(List Hit)) (r:(Bool × (List Hit))),zbU fuel x1 x2 o1 o2 o3=some r→AC Tryz.prog 107 [.ag [.t (.sc (.int .i64 x1.kind)),.t (.sc (.str x1.name)),.t (.sc (.int .i64 x1.n)),.t (.sl (x1.scopes.map rI)),.t (.sl (x1.kids.map Form.row))],.ag [.t (.sc (.int .i64 x2.kind)),.t (.sc (.str x2.name)),.t (.sc (.int .i64 x2.n)),.t (.sl (x2.scopes.map rI)),.t (.sl (x2.kids.map Form.row))],.rf 9000 0,.rf 9001 0,.rf 9002 0] (objs [(9000,.box [.t (.sl (o1.map Bind.row))]),(9001,.box [.t (.sl (o2.map Form.row))]),(9002,.box [.ar 9460]),(9460,.dar (o3.map (Hit.rowD 3 37 88)) 88)]) (.t (.sc (.bool r.1))) (objs [(9000,.box [.t (.sl (o1.map Bind.row))]),(9001,.box [.t (.sl (o2.map Form.row))]),(9002,.box [.ar 10460]),(9460,.dead),(10460,.dar (r.2.map (Hit.rowD 3 37 88)) 88)])
def zdL (fuel:Nat):Prop:=∀ (x1:(List Bind)) (x2:Form) (x3:(List Form)) (x4:Form) (r:((List Hit) × Bool)),zcg fuel x1 x2 x3 x4=some r→AC Tryz.prog 51 [.t (.sl (x1.map Bind.row)),.ag [.t (.sc (.int .i64 x2.kind)),.t (.sc (.str x2.name)),.t (.sc (.int .i64 x2.n)),.t (.sl (x2.scopes.map rI)),.t (.sl (x2.kids.map Form.row))],.t (.sl (x3.map Form.row)),.ag [.t (.sc (.int .i64 x4.kind)),.t (.sc (.str x4.name)),.t (.sc (.int .i64 x4.n)),.t (.sl (x4.scopes.map rI)),.t (.sl (x4.kids.map Form.row))]] (objs []) (.tp [.ar 9200,.t (.sc (.bool r.2))]) (objs [(9200,.dar (r.1.map (Hit.rowD 3 37 88)) 88)])
theorem m_impl_match_1_D_st (fu:Nat) (ih_m_impl_match_1_D:∀ k,k≤fu→zdZ k) (ih_m_impl_match_D:∀ k,k≤fu→zdL k):zdZ (fu+1):=by
 intro x1 x2 o1 o2 o3 r F0
 rw [zbU] at F0
 refine AC_i [.t (.sc (.bool r.1))] Tryz.func107 rfl Tryz.ntmps107 ?_
 intro C hC
 refine zb (za ?_)
 refine zbo ?_
 refine zbo ?_
 refine s_as ?_
 refine zf (zd (zb (za ?_)))
 refine zq yA33 ?_
 refine z6 yA37 yS37 ?_
 refine zq yA35 ?_
 refine z6 yA37 yS37 ?_
 obtain ⟨v1,V1,F1⟩:=zc F0
 refine zT [(9200,2015)] [] _ _ (ih_m_impl_match_D fu (by omega) _ _ _ _ _ V1) ?_
 refine s_mv ?_
 refine zdv ?_
 refine zdv ?_
 refine s_as ?_
 refine s_as ?_
 refine zf (zd (zb (za ?_)))
 refine zq yA30 ?_
 refine s_mv ?_
 obtain ⟨hk2,F2⟩:=zat F1
 refine s_apO (Hit.rowD 3 37 88) hk2 yP30 ?_
 refine zde yS30 ?_
 refine zf (zd (zb (za ?_)))
 refine s_mv ?_
 refine s_as ?_
 refine zf (zd ?_)
 refine awp_mvBO 9002 20 10460 [.ar 10460] ?_
 refine zh (zo ?_)
 cases F2
 exact zk _ [] Tryz.results107
end Go.Abs
