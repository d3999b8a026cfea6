/- A part of the proof: what the functions that the law calls answer, as pure values. -/
import Derived.Test.YtcebadpiebamdaaGreatK960b233c8b1a
import Derived.Test.YtcebadpiebamdaaGreatK006dda84d553
import Derived.Test.YtcebadpiebamdaaGreatK863b9396a6d1
import Derived.Test.YtcebadpiebamdaaGreatKc451b5177700
import Derived.Test.YtcebadpiebamdaaGreatK4288d3e3b386
import Derived.Test.YtcebadpiebamdaaGreatKa0dd8db6698e
import Derived.Test.YtcebadpiebamdaaGreatKe458358afcd7
import Derived.Test.YtcebadpiebamdaaGreatK9fbfde43654d
import Derived.Test.YtcebadpiebamdaaGreatKc219dfa2b982
import Derived.Test.YtcebadpiebamdaaGreatK6c9600c4ffb9
import Derived.Test.YtcebadpiebamdaaGreatK0c09c3f6594f
set_option linter.unusedSimpArgs false
set_option linter.unusedVariables false
set_option maxRecDepth 100000
set_option maxHeartbeats 4000000
namespace Go.Abs
open Go.Proofs
def zel (fuel:Nat):Prop:=∀ (x1:Form) (r:Form),zaD fuel x1=some r→AC Tryz.prog 105 [.ag [.t (.sc (.int .i64 x1.kind)),.t (.sc (.str x1.name)),.t (.sc (.int .i64 x1.n)),.t (.sl (x1.scopes.map rI)),.t (.sl (x1.kids.map Form.row))]] noOb (.ag [.t (.sc (.int .i64 r.kind)),.t (.sc (.str r.name)),.t (.sc (.int .i64 r.n)),.t (.sl (r.scopes.map rI)),.t (.sl (r.kids.map Form.row))]) noOb
theorem m_impl_copyForm_st (fu:Nat) (ih_m_impl_copyForm:∀ k,k≤fu→zel k):zel (fu+1):=by
 intro x1 r F0
 rw [zaD] at F0
 refine AC_i [.ag [.t (.sc (.int .i64 r.kind)),.t (.sc (.str r.name)),.t (.sc (.int .i64 r.n)),.t (.sl (r.scopes.map rI)),.t (.sl (r.kids.map Form.row))]] Tryz.func105 rfl Tryz.ntmps105 ?_
 intro C hC
 refine zb (za ?_)
 refine zbo ?_
 refine zaN yZ37 ?_
 refine zf (zd (zb ?_))
 refine zP yMix (by kernel_rfl) ?_
 refine s_fa zcD ?_
 refine zq yA3 ?_
 refine s_fa zbC ?_
 refine zq yA9 ?_
 refine s_fa zeg ?_
 refine zq yA3 ?_
 refine s_fa zdR ?_
 refine zq yA23 ?_
 obtain ⟨v1,V1,F1⟩:=zc F0
 refine zy [] (m_slices_Clone_int_ok fu _ _ V1) ?_
 refine s_bld yZ37 yL37 ?_
 refine zaN yZ37 ?_
 refine zde yS37 ?_
 refine zai (by kernel_rfl) ?_
 refine zd (zb (zb (za ?_)))
 refine s_fa zJ ?_
 refine zq yA35 ?_
 refine zB yU35 ?_
 refine s_mv ?_
 refine zf (zd (zl ?_))
 refine awp_ownB 3 5020 37 [.t (.sc (.int .i64 x1.kind)),.t (.sc (.str x1.name)),.t (.sc (.int .i64 x1.n)),.t (.sl (v1.map rI)),.ar 5020] yI37.choose_spec ?_
 refine zap [5,19,20,21,22,23,24,25,26,27,28,29,30] [3,5020] [5,27,28] [5020] (fun a:Nat × Int × (List Form)=>a.1) (fun a:Nat × Int × (List Form)=>[(19,.t (.sc (.int .i64 a.2.1)))]) (fun a:Nat × Int × (List Form)=>[(3,.box [.t (.sc (.int .i64 x1.kind)),.t (.sc (.str x1.name)),.t (.sc (.int .i64 x1.n)),.t (.sl (v1.map rI)),.ar 5020]),(5020,.arr (a.2.2.map Form.row) 37 true)]) (fun a:Nat × Int × (List Form)=>a.1≤fu∧zaU a.1 x1 v1 a.2.1 a.2.2=some r∧0≤a.2.1) (fu,0,([]:List Form)) ⟨Nat.le_refl _,F1,by simp⟩ (by rfl) (by rfl) (fun _=>rfl) (zZ (by conv=>lhs;whnf) (by rfl) zbP) (zQ (by conv=>lhs;whnf) (by rfl) (zQ (by conv=>lhs;whnf) (by rfl) zbp)) (zcP hC rfl) (by repeat (first | exact zah rfl | refine zaA rfl ?_ | refine zab rfl ?_)) (by repeat (first | exact za5 | exact zal rfl | refine zaB rfl ?_ | refine zac rfl ?_)) ?_
 clear F1
 rintro ⟨fu,g2,g3⟩ ⟨hl4,F2,hn_g2⟩
 dsimp only at hl4 F2 hn_g2 ⊢
 obtain _ | fu:=fu
 · rw [zaU] at F2;cases F2
 rw [zaU] at F2
 refine zb (za ?_)
 refine s_lt ?_
 refine zf (zd (zb ?_))
 refine zn F2 ?_ ?_<;>intro C5 F3
 refine zH 17 (fun B6=>?_)
 refine zi (zd (zb (zl (zb (za ?_)))))
 obtain ⟨v7,V7,F4⟩:=zc F3
 refine zN Form.row V7 (Form.row_eq _) yE35 ?_
 refine zaI yA37 yS37 ?_
 refine zaN yZ37 ?_
 refine zde yS37 ?_
 refine zf (zd ?_)
 refine zP yMix (by kernel_rfl) ?_
 refine s_fa zJ ?_
 refine zq yA35 ?_
 refine z6 yA37 yS37 ?_
 obtain ⟨v8,V8,F5⟩:=zc F4
 refine zy [] (ih_m_impl_copyForm fu (by omega) _ _ V8) ?_
 refine s_bs Form.row [v8] yP35 yR37 ?_
 obtain ⟨hk9,F6⟩:=zat F5
 refine zgC Form.row (fun y=>Form.row_len y) hk9 yP35 ?_
 refine s_fa zJ ?_
 refine zgT yS35 ?_
 refine zai (by kernel_rfl) ?_
 refine zY (zd (za ?_))
 refine zE (zaF C5 B6 hn_g2) ?_
 refine s_mv ?_
 refine zf ?_
 exact s_rn (fu,(g2+1),(g3++[v8])) ⟨by first | omega | (dsimp only;omega),F6,by first | omega | (dsimp only;omega)⟩ [(5020,28)]
 refine zA (zr (zp (zu (zd (zb (za ?_))))))
 refine z6 yA37 yS37 ?_
 refine zde yS37 ?_
 refine zf (zd (zh (zo ?_)))
 cases F3
 exact zgl [] [5020] (by rw [Tryz.results105];exact (res_agg (by conv=>lhs;whnf) (by conv=>lhs;whnf) yA37 yS37 rfl zfp))
theorem m_impl_copyForm_all (fuel:Nat):zel fuel:=by
 induction fuel using Nat.strongRecOn with
 | _ N ih =>
   cases N with
   | zero=>exact (by intro x1 r h;rw [zaD] at h;cases h)
   | succ fu=>exact m_impl_copyForm_st fu (fun k hk=>(ih k (by omega)))
theorem zfz (fuel:Nat):zel fuel:=(m_impl_copyForm_all fuel)
def zeu (fuel:Nat):Prop:=∀ (x1:(List Bind)) (x2:Form) (x3:(List Form)) (x4:Form) (r:((List Hit) × Bool)),zcg fuel x1 x2 x3 x4=some r→AC Tryz.prog 51 [.t (.sl (x1.map Bind.row)),.ag [.t (.sc (.int .i64 x2.kind)),.t (.sc (.str x2.name)),.t (.sc (.int .i64 x2.n)),.t (.sl (x2.scopes.map rI)),.t (.sl (x2.kids.map Form.row))],.t (.sl (x3.map Form.row)),.ag [.t (.sc (.int .i64 x4.kind)),.t (.sc (.str x4.name)),.t (.sc (.int .i64 x4.n)),.t (.sl (x4.scopes.map rI)),.t (.sl (x4.kids.map Form.row))]] noOb (.tp [.t (.sl (r.1.map Hit.row)),.t (.sc (.bool r.2))]) noOb
def zeL (fuel:Nat):Prop:=∀ (x1:Form) (x2:Form) (o1:(List Bind)) (o2:(List Form)) (o3:(List Hit)) (r:(Bool × (List Hit))),zbU fuel x1 x2 o1 o2 o3=some r→AC Tryz.prog 107 [.ag [.t (.sc (.int .i64 x1.kind)),.t (.sc (.str x1.name)),.t (.sc (.int .i64 x1.n)),.t (.sl (x1.scopes.map rI)),.t (.sl (x1.kids.map Form.row))],.ag [.t (.sc (.int .i64 x2.kind)),.t (.sc (.str x2.name)),.t (.sc (.int .i64 x2.n)),.t (.sl (x2.scopes.map rI)),.t (.sl (x2.kids.map Form.row))],.rf 9000 0,.rf 9001 0,.rf 9002 0] (objs [(9000,.box [.t (.sl (o1.map Bind.row))]),(9001,.box [.t (.sl (o2.map Form.row))]),(9002,.box [.ar 9460]),(9460,.arr (o3.map Hit.row) 88 true)]) (.t (.sc (.bool r.1))) (objs [(9000,.box [.t (.sl (o1.map Bind.row))]),(9001,.box [.t (.sl (o2.map Form.row))]),(9002,.box [.ar 10460]),(9460,.dead),(10460,.arr (r.2.map Hit.row) 88 true)])
theorem m_impl_match_st (fu:Nat) (ih_m_impl_match:∀ k,k≤fu→zeu k) (ih_m_impl_match_1:∀ k,k≤fu→zeL k):zeu (fu+1):=by
 intro x1 x2 x3 x4 r F0
 rw [zcg] at F0
 refine AC_i [.t (.sl (r.1.map Hit.row)),.t (.sc (.bool r.2))] Tryz.func51 rfl Tryz.ntmps51 ?_
 intro C hC
 refine zb (za ?_)
 iterate 4 refine zbo ?_
 refine s_as ?_
 refine s_as ?_
 refine zf (zd (zb (zb (za ?_))))
 refine s_fa zcD ?_
 refine zq yA3 ?_
 refine zf (zd (zl (zb (za ?_))))
 refine s_eq ?_
 refine s_as ?_
 refine zf (zd ?_)
 refine zn F0 ?_ ?_<;>intro C1 F1
 refine zb (zl (zb (za ?_)))
 refine s_fa zbC ?_
 refine zq yA9 ?_
 refine zgj ?_
 refine s_as ?_
 refine zf (zd ?_)
 refine zn F1 ?_ ?_<;>intro C2 F2
 refine zb (za ?_)
 refine s_as ?_
 refine s_as ?_
 refine zf (zd (zh (zj (zg (zj (zg (zo ?_)))))))
 cases F2
 exact zk [] [] Tryz.results51
 refine zb (za ?_)
 refine zq yA35 ?_
 refine z6 yA37 yS37 ?_
 obtain ⟨v3,V3,F3⟩:=zc F2
 refine zy [] (zeV fu _ _ _ V3) ?_
 refine s_as ?_
 refine zf (zd ?_)
 refine zn F3 ?_ ?_<;>intro C4 F4
 refine zb (za ?_)
 refine zq yA33 ?_
 refine z6 yA37 yS37 ?_
 refine z6 yA37 yS37 ?_
 obtain ⟨v5,V5,F5⟩:=zc F4
 refine zy [] (zfA fu _ _ _ _ V5) ?_
 refine s_as ?_
 refine s_as ?_
 refine zf (zd (zh (zj (zg (zj (zg (zo ?_)))))))
 cases F5
 exact zk [] [] Tryz.results51
 refine zi (zY (zd (zb ?_)))
 refine zP yMix (by kernel_rfl) ?_
 refine z6 yA37 yS37 ?_
 obtain ⟨v6,V6,F5⟩:=zc F4
 refine zy [] (zfz fu _ _ V6) ?_
 refine z6 yA37 yS37 ?_
 obtain ⟨v7,V7,F6⟩:=zc F5
 refine zy [] (zfz fu _ _ V7) ?_
 refine s_bld yZ88 yL88 ?_
 refine s_bs Hit.row [(Hit.mk v6 0 v7 ([]:List Hit))] yP30 yR88 ?_
 refine s_as ?_
 refine s_as ?_
 refine zai (by kernel_rfl) ?_
 refine zd (zh (zj (zg (zo ?_))))
 cases F6
 exact zk [] [49] Tryz.results51
 refine zb (za ?_)
 refine s_eq ?_
 refine s_as ?_
 refine zf (zd ?_)
 refine zn F1 ?_ ?_<;>intro C8 F2
 refine zb (za ?_)
 refine z6 yA37 yS37 ?_
 refine z6 yA37 yS37 ?_
 obtain ⟨v9,V9,F3⟩:=zc F2
 refine zy [] (zfB fu _ _ _ V9) ?_
 refine s_as ?_
 refine s_as ?_
 refine zf (zd (zh (zj (zg (zo ?_)))))
 cases F3
 exact zk [] [] Tryz.results51
 refine zi (zY (zd (zb (zb (za ?_)))))
 refine s_fa zcD ?_
 refine zq yA3 ?_
 refine s_ne ?_
 refine zf (zd ?_)
 refine zn F2 ?_ ?_<;>intro C10 F3
 refine zb (za ?_)
 refine s_as ?_
 refine s_as ?_
 refine zf (zd (zh (zg (zo ?_))))
 cases F3
 exact zk [] [] Tryz.results51
 refine zi (zd (zb (za ?_)))
 refine s_bs Hit.row ([]:List Hit) yP30 yR88 ?_
 refine zaN yZ30 ?_
 refine zde yS30 ?_
 refine zf (zd (zb (za ?_)))
 refine s_fn ?_
 refine s_as ?_
 refine zf (zd (zb (za ?_)))
 refine s_fa zJ ?_
 refine zq yA35 ?_
 obtain ⟨v11,V11,F4⟩:=zc F3
 refine zy [] (zgc fu _ _ V11) ?_
 refine s_as ?_
 refine zf (zd (zb (zb (za ?_))))
 refine s_mv ?_
 refine s_lt ?_
 refine zf (zd ?_)
 refine zn F4 ?_ ?_<;>intro C12 F5
 refine zb (zb (za ?_))
 refine s_fa zJ ?_
 refine zq yA35 ?_
 refine zB yU35 ?_
 refine s_fa zJ ?_
 refine zq yA35 ?_
 refine zB yU35 ?_
 refine s_ne ?_
 refine zf (zd ?_)
 refine zn F5 ?_ ?_<;>intro C13 F6
 refine zb (za ?_)
 refine s_as ?_
 refine s_as ?_
 refine zf (zd (zh (zg (zg (zo ?_)))))
 cases F6
 exact zk [] [] Tryz.results51
 refine zi (zd ?_)
 refine zdr (α:=Nat × (List Hit)) [8,9,13,72,73,74,75,76,77,78,79,80,81,82,83,84,85,86,87,88,89,90,91] [10,58,5040] [] (fun a=>[]) (fun a=>[(10,.box [.ar 5040]),(58,.dead),(5040,.arr (a.2.map Hit.row) 88 true)]) (fun a=>a.1≤fu∧zcz a.1  a.2=some r) ?_ ?_
 refine zb (za ?_)
 refine s_fa zJ ?_
 refine zq yA35 ?_
 refine zB yU35 ?_
 refine s_mv ?_
 refine zf (zd (zl ?_))
 refine zez 10 58 5040 [.ar 5040] ?_
 refine zap [8,9,13,75,76,77,78,79,80,81,82,83,84,85,86,87,88,89,90,91] [10,5040] [42089] [5040] (fun a:Nat × Int × (List Hit)=>a.1) (fun a:Nat × Int × (List Hit)=>[(75,.t (.sc (.int .i64 a.2.1)))]) (fun a:Nat × Int × (List Hit)=>[(10,.box [.ar 5040]),(5040,.arr (a.2.2.map Hit.row) 88 true)]) (fun a:Nat × Int × (List Hit)=>a.1≤fu∧zby a.1 x1 x2 x3 x4 a.2.1 a.2.2=some r∧0≤a.2.1) (fu,0,([]:List Hit)) ⟨Nat.le_refl _,F6,by simp⟩ (by rfl) (by rfl) (fun _=>rfl) (zZ (by conv=>lhs;whnf) (by rfl) zbP) (zQ (by conv=>lhs;whnf) (by rfl) (zQ (by conv=>lhs;whnf) (by rfl) zbp)) (zcP hC rfl) (by repeat (first | exact zah rfl | refine zaA rfl ?_ | refine zab rfl ?_)) (by repeat (first | exact za5 | exact zal rfl | refine zaB rfl ?_ | refine zac rfl ?_)) ?_
 clear F6
 rintro ⟨fu,g14,g15⟩ ⟨hl16,F7,hn_g14⟩
 dsimp only at hl16 F7 hn_g14 ⊢
 obtain _ | fu:=fu
 · rw [zby] at F7;cases F7
 rw [zby] at F7
 refine zb (za ?_)
 refine s_lt ?_
 refine zf (zd (zb ?_))
 refine zn F7 ?_ ?_<;>intro C17 F8
 refine zH 61 (fun B18=>?_)
 refine zi (zd (zb (zl (zb (za ?_)))))
 refine s_mv ?_
 refine s_as ?_
 refine zf (zd (zb ?_))
 refine zP yMix (by kernel_rfl) ?_
 refine s_mv ?_
 refine s_fa zJ ?_
 refine zq yA35 ?_
 refine s_mv ?_
 obtain ⟨v19,V19,F9⟩:=zc F8
 refine zN Form.row V19 (Form.row_eq _) yE35 ?_
 refine zaI yA37 yS37 ?_
 refine s_fa zJ ?_
 refine zq yA35 ?_
 refine s_mv ?_
 obtain ⟨v20,V20,F10⟩:=zc F9
 refine zN Form.row V20 (Form.row_eq _) yE35 ?_
 refine zaI yA37 yS37 ?_
 obtain ⟨v21,V21,F11⟩:=zc F10
 refine zT [(9000,4),(9001,6),(9002,10),(9460,5040),(10460,42089)] [] _ _ (ih_m_impl_match_1 fu (by omega) _ _ _ _ _ _ V21) ?_
 refine zbh ?_
 refine zai (by kernel_rfl) ?_
 refine zd ?_
 refine zn F11 ?_ ?_<;>intro C22 F12
 refine zb (za ?_)
 refine s_as ?_
 refine s_as ?_
 refine zf (zd (zh (zj (zg (zv (zj (zfX (zg (zo ?_)))))))))
 cases F12
 exact zk [] [] Tryz.results51
 refine zi (zY (zd (za ?_)))
 refine zE (zaF C17 B18 hn_g14) ?_
 refine s_mv ?_
 refine zf ?_
 exact s_rn (fu,(g14+1),v21.2) ⟨by first | omega | (dsimp only;omega),F12,by first | omega | (dsimp only;omega)⟩ [(5040,42089)]
 refine zA (zr (zp (zu ?_)))
 exact s_jn (fu,g15) ⟨by first | omega | (dsimp only;omega),F8⟩
 clear F6
 rintro ⟨fu,g23⟩ ⟨hl24,F7⟩
 dsimp only at hl24 F7 ⊢
 obtain _ | fu:=fu
 · rw [zcz] at F7;cases F7
 rw [zcz] at F7
 refine zb (za ?_)
 refine zq yA30 ?_
 refine s_as ?_
 refine s_as ?_
 refine zf (zd (zh (zg (zo ?_))))
 cases F7
 exact zk [] [5040] Tryz.results51
 refine zi (zd (zb (za ?_)))
 refine s_fa zJ ?_
 refine zq yA35 ?_
 refine zB yU35 ?_
 refine s_fa zJ ?_
 refine zq yA35 ?_
 refine zB yU35 ?_
 refine zfZ rfl ?_
 refine zfZ rfl ?_
 refine s_as ?_
 refine zf (zd (zb (zb (za ?_))))
 refine s_mv ?_
 refine s_lt ?_
 refine zf (zd ?_)
 refine zn F5 ?_ ?_<;>intro C25 F6
 refine zb (za ?_)
 refine s_as ?_
 refine s_as ?_
 refine zf (zd (zh (zg (zo ?_))))
 cases F6
 exact zk [] [] Tryz.results51
 refine zi (zd (zb (za ?_)))
 refine s_mv ?_
 refine zfZ rfl ?_
 refine s_as ?_
 refine zf (zd ?_)
 refine zdr (α:=Nat × (List Hit)) [8,9,16,105,106,107,108,109,110,111,112,113,114,115,116,117,118,119,120,121,122] [10,58,5080] [] (fun a=>[]) (fun a=>[(10,.box [.ar 5080]),(58,.dead),(5080,.arr (a.2.map Hit.row) 88 true)]) (fun a=>a.1≤fu∧zb8 a.1 x1 x2 x3 x4 v11 a.2=some r) ?_ ?_
 refine zb (za ?_)
 refine s_as ?_
 refine zf (zd (zl ?_))
 refine zez 10 58 5080 [.ar 5080] ?_
 refine zap [8,9,16,105,106,107,108,109,110,111,112,113,114,115,116,117,118,119,120,121,122] [10,5080] [42121] [5080] (fun a:Nat × Int × (List Hit)=>a.1) (fun a:Nat × Int × (List Hit)=>[(16,.t (.sc (.int .i64 a.2.1)))]) (fun a:Nat × Int × (List Hit)=>[(10,.box [.ar 5080]),(5080,.arr (a.2.2.map Hit.row) 88 true)]) (fun a:Nat × Int × (List Hit)=>a.1≤fu∧zbx a.1 x1 x2 x3 x4 v11 a.2.1 a.2.2=some r) (fu,0,([]:List Hit)) ⟨Nat.le_refl _,F6⟩ (by rfl) (by rfl) (fun _=>rfl) (zZ (by conv=>lhs;whnf) (by rfl) zbP) (zQ (by conv=>lhs;whnf) (by rfl) (zQ (by conv=>lhs;whnf) (by rfl) zbp)) (zcP hC rfl) (by repeat (first | exact zah rfl | refine zaA rfl ?_ | refine zab rfl ?_)) (by repeat (first | exact za5 | exact zal rfl | refine zaB rfl ?_ | refine zac rfl ?_)) ?_
 clear F6
 rintro ⟨fu,g26,g27⟩ ⟨hl28,F7⟩
 dsimp only at hl28 F7 ⊢
 obtain _ | fu:=fu
 · rw [zbx] at F7;cases F7
 rw [zbx] at F7
 refine zb (zb (za ?_))
 refine s_mv ?_
 refine s_mv ?_
 refine s_lt ?_
 refine zf (zd ?_)
 refine zn F7 ?_ ?_<;>intro C29 F8
 refine zi (zd (zb (zl (zb ?_))))
 refine zP yMix (by kernel_rfl) ?_
 refine s_mv ?_
 refine s_fa zJ ?_
 refine zq yA35 ?_
 refine s_mv ?_
 obtain ⟨v30,V30,F9⟩:=zc F8
 refine zN Form.row V30 (Form.row_eq _) yE35 ?_
 refine zaI yA37 yS37 ?_
 refine s_fa zJ ?_
 refine zq yA35 ?_
 refine s_mv ?_
 obtain ⟨v31,V31,F10⟩:=zc F9
 refine zN Form.row V31 (Form.row_eq _) yE35 ?_
 refine zaI yA37 yS37 ?_
 obtain ⟨v32,V32,F11⟩:=zc F10
 refine zT [(9000,4),(9001,6),(9002,10),(9460,5080),(10460,42121)] [] _ _ (ih_m_impl_match_1 fu (by omega) _ _ _ _ _ _ V32) ?_
 refine zbh ?_
 refine zai (by kernel_rfl) ?_
 refine zd ?_
 refine zn F11 ?_ ?_<;>intro C33 F12
 refine zb (za ?_)
 refine s_as ?_
 refine s_as ?_
 refine zf (zd (zh (zj (zg (zv (zj (zfX (zo ?_))))))))
 cases F12
 exact zk [] [] Tryz.results51
 refine zi (zY (zd (za ?_)))
 refine s_mv ?_
 refine zE rfl ?_
 refine s_as ?_
 refine zf ?_
 exact s_rn (fu,(w64 (g26+1)),v32.2) ⟨by first | omega | (dsimp only;omega),F12⟩ [(5080,42121)]
 refine zA (zr (zp (zu ?_)))
 exact s_jn (fu,g27) ⟨by first | omega | (dsimp only;omega),F8⟩
 clear F6
 rintro ⟨fu,g34⟩ ⟨hl35,F7⟩
 dsimp only at hl35 F7 ⊢
 obtain _ | fu:=fu
 · rw [zb8] at F7;cases F7
 rw [zb8] at F7
 refine zb ?_
 refine zP yMix (by kernel_rfl) ?_
 refine s_fa zJ ?_
 refine zq yA35 ?_
 refine s_mv ?_
 obtain ⟨v36,V36,F8⟩:=zc F7
 refine zN Form.row V36 (Form.row_eq _) yE35 ?_
 refine zaI yA37 yS37 ?_
 refine zq yA35 ?_
 obtain ⟨v37,V37,F9⟩:=zc F8
 refine zT [(9200,2130)] [] _ _ (zgb fu _ _ _ V37) ?_
 refine s_mv ?_
 refine zdv ?_
 refine zdv ?_
 refine s_as ?_
 refine s_as ?_
 refine zai (by kernel_rfl) ?_
 refine zd (zb (za ?_))
 refine s_bs Hit.row ([]:List Hit) yP30 yR88 ?_
 refine s_as ?_
 refine zf (zd ?_)
 refine zeN 133 (Hit.rowO 88) (es:=([]:List Hit).map Hit.row) (by conv=>lhs;whnf) rfl ?_
 refine zdr (α:=Nat × (List Hit)) [19,20,21,134,135,136,137,138,139,140,141,142,143,144,145,146,147,148,149,150,151,152] [133,5120] [] (fun a=>[(19,.ar 5120)]) (fun a=>[(133,.dead),(5120,.dar (a.2.map (Hit.rowO 88)) 88)]) (fun a=>a.1≤fu∧zb7 a.1 x1 x2 x3 x4 v11 g34 a.2=some r) ?_ ?_
 refine zb (za ?_)
 refine s_mv ?_
 refine s_lenA yU35 ?_
 refine s_mv ?_
 refine zf (zd (zl ?_))
 refine awp_mvD 19 133 5120 (by conv=>lhs;whnf) (by conv=>lhs;whnf) rfl ?_
 refine zap [19,20,21,136,137,138,139,140,141,142,143,144,145,146,147,148,149,150,151,152] [5120] [21,150,151] [5120] (fun a:Nat × (List Hit) × Int=>a.1) (fun a:Nat × (List Hit) × Int=>[(19,.ar 5120),(136,.t (.sc (.int .i64 a.2.2)))]) (fun a:Nat × (List Hit) × Int=>[(5120,.dar (a.2.1.map (Hit.rowO 88)) 88)]) (fun a:Nat × (List Hit) × Int=>a.1≤fu∧za3 a.1 x1 x2 x3 x4 v11 g34 v37 a.2.1 a.2.2=some r∧0≤a.2.2) (fu,([]:List Hit),0) ⟨Nat.le_refl _,F9,by simp⟩ (by rfl) (by rfl) (fun _=>rfl) (zZ (by conv=>lhs;whnf) (by rfl) (zZ (by conv=>lhs;whnf) (by rfl) zbP)) (zQ (by conv=>lhs;whnf) (by rfl) zbp) (zcP hC rfl) (by repeat (first | exact zah rfl | refine zaA rfl ?_ | refine zab rfl ?_)) (by repeat (first | exact za5 | exact zal rfl | refine zaB rfl ?_ | refine zac rfl ?_)) ?_
 clear F9
 rintro ⟨fu,g38,g39⟩ ⟨hl40,F10,hn_g39⟩
 dsimp only at hl40 F10 hn_g39 ⊢
 obtain _ | fu:=fu
 · rw [za3] at F10;cases F10
 rw [za3] at F10
 refine zb (za ?_)
 refine s_lt ?_
 refine zf (zd (zb ?_))
 refine zn F10 ?_ ?_<;>intro C41 F11
 refine awp_lenA 17 2130 (fun B42=>?_)
 refine zi (zd (zb (zl (zb (za ?_)))))
 refine s_mv ?_
 obtain ⟨v43,V43,F12⟩:=zc F11
 refine s_ixA Form.row V43 yE35 ?_
 refine s_lAN Form.row V43 (Form.row_eq _) yA37 yS37 ?_
 refine zaN yZ37 ?_
 refine s_as ?_
 refine zde yS37 ?_
 refine zf (zd ?_)
 refine zP yMix (by kernel_rfl) ?_
 refine s_mv0 ?_
 refine z6 yA37 yS37 ?_
 obtain ⟨v44,V44,F13⟩:=zc F12
 refine zy [] (zfz fu _ _ V44) ?_
 refine s_mv ?_
 refine s_mv ?_
 obtain ⟨v45,V45,F14⟩:=zc F13
 refine zN rI V45 rfl yE23 ?_
 refine zq yA3 ?_
 refine zE rfl ?_
 refine s_bldN 11 88 yZ88 yL88 ?_
 refine s_bs (Hit.rowN 88) [(Hit.mk v44 (w64 (v45+1)) (Form.mk 0 (⟨#[]⟩:ByteArray) 0 ([]:List Int) ([]:List Form)) ([]:List Hit))] yP30 yR88 ?_
 obtain ⟨hk46,F15⟩:=zat F14
 refine s_apD (Hit.rowO 88) (Hit.rowN 88) (Hit.rowN_nis yS88) (fun _=>rfl) rfl hk46 yP30 ?_
 refine s_as ?_
 refine zai (by kernel_rfl) ?_
 refine zY (zd (za ?_))
 refine zE (zaF C41 B42 hn_g39) ?_
 refine s_mv ?_
 refine zf ?_
 exact s_rn (fu,(g38++[(Hit.mk v44 (w64 (v45+1)) (Form.mk 0 (⟨#[]⟩:ByteArray) 0 ([]:List Int) ([]:List Form)) ([]:List Hit))]),(g39+1)) ⟨by first | omega | (dsimp only;omega),F15,by first | omega | (dsimp only;omega)⟩ [(5120,151)]
 refine zA (zr (zp (zu ?_)))
 exact s_jn (fu,g38) ⟨by first | omega | (dsimp only;omega),F11⟩
 clear F9
 rintro ⟨fu,g47⟩ ⟨hl48,F10⟩
 dsimp only at hl48 F10 ⊢
 obtain _ | fu:=fu
 · rw [zb7] at F10;cases F10
 rw [zb7] at F10
 refine zdr (α:=Nat × (List Hit)) [8,9,23,24,25,26,153,154,155,156,157,158,159,160,161,162,163,164,165,166,167,168,169,170,171,172,173,174,175,176,177,178,179,180,181,182,183,184,185,186,187,188,189,190,191,192,193,194,195,196,197,198,199,200] [5120] [] (fun a=>[]) (fun a=>[(5120,.dar (a.2.map (Hit.rowO 88)) 88)]) (fun a=>a.1≤fu∧zbT a.1 x1 x2 x3 x4 v11 g34 a.2=some r) ?_ ?_
 refine zb (za ?_)
 refine s_fa zJ ?_
 refine zq yA35 ?_
 iterate 3 refine s_mv ?_
 refine zE rfl ?_
 obtain ⟨v49,V49,F11⟩:=zc F10
 refine s_sl11 Form.row (fun y=>Form.row_len y) V49 yU35 yE35 ?_
 refine zB yU35 ?_
 refine s_mv ?_
 refine zf (zd (zl ?_))
 refine zaE (β:=Int × (List Hit)) [8,9,23,24,25,26,161,162,163,164,165,166,167,168,169,170,171,172,173,174,175,176,177,178,179,180,181,182,183,184,185,186,187,188,189,190,191,192,193,194,195,196,197,198,199,200] [5120] [23] (fun a=>[(161,.t (.sc (.int .i64 a.2.1)))]) (fun a=>[(5120,.dar (a.2.2.map (Hit.rowO 88)) 88)]) (fun a=>a.1≤fu∧zaP a.1 x1 x2 x3 x4 v11 g34 v49 a.2.1 a.2.2=some r) (fu,0,g47) ⟨Nat.le_refl _,F11⟩ ?_
 clear F11
 rintro ⟨fu,g50,g51⟩ ⟨hl52,F12⟩
 dsimp only at hl52 F12 ⊢
 obtain _ | fu:=fu
 · rw [zaP] at F12;cases F12
 rw [zaP] at F12
 refine zb (za ?_)
 refine s_lt ?_
 refine zf (zd (zb ?_))
 refine zn F12 ?_ ?_<;>intro C53 F13
 refine zH 159 (fun B54=>?_)
 refine zi (zd (zb (zl (zb (za ?_)))))
 obtain ⟨v55,V55,F14⟩:=zc F13
 refine zN Form.row V55 (Form.row_eq _) yE35 ?_
 refine zaI yA37 yS37 ?_
 refine zaN yZ37 ?_
 refine zde yS37 ?_
 refine zf (zd (zb ?_))
 refine zP yMix (by kernel_rfl) ?_
 refine zq yA33 ?_
 refine s_fa zJ ?_
 refine zq yA35 ?_
 refine s_mv ?_
 obtain ⟨v56,V56,F15⟩:=zc F14
 refine zN Form.row V56 (Form.row_eq _) yE35 ?_
 refine zaI yA37 yS37 ?_
 refine zq yA35 ?_
 refine z6 yA37 yS37 ?_
 obtain ⟨v57,V57,F16⟩:=zc F15
 refine zy [] (ih_m_impl_match fu (by omega) _ _ _ _ _ V57) ?_
 refine s_mv ?_
 refine zdv ?_
 refine zdv ?_
 refine s_as ?_
 refine s_as ?_
 refine zai (by kernel_rfl) ?_
 refine zd (zb (zb (za ?_)))
 refine s_mv ?_
 refine zbh ?_
 refine zf (zd ?_)
 refine zn F16 ?_ ?_<;>intro C58 F17
 refine zb (za ?_)
 refine s_as ?_
 refine s_as ?_
 refine zf (zd (zh (zg (zj (zg (zv (zj (zfX (zo ?_)))))))))
 cases F17
 exact zk [] [] Tryz.results51
 refine zi (zd (zb (za ?_)))
 refine s_mv ?_
 refine s_lenD yU30 ?_
 refine s_mv ?_
 refine zf (zd (zl ?_))
 refine zaE (β:=Int × (List Hit)) [26,181,182,183,184,185,186,187,188,189,190,191,192,193,194,195,196,197,198,199] [5120] [188,194,195] (fun a=>[(181,.t (.sc (.int .i64 a.2.1)))]) (fun a=>[(5120,.dar (a.2.2.map (Hit.rowO 88)) 88)]) (fun a=>a.1≤fu∧za2 a.1 x1 x2 x3 x4 v11 g34 v49 g50 g51 v57 a.2.1 a.2.2=some r) (fu,0,g51) ⟨Nat.le_refl _,F17⟩ ?_
 clear F17
 rintro ⟨fu,g59,g60⟩ ⟨hl61,F18⟩
 dsimp only at hl61 F18 ⊢
 obtain _ | fu:=fu
 · rw [za2] at F18;cases F18
 rw [za2] at F18
 refine zb (za ?_)
 refine s_lt ?_
 refine zf (zd (zb ?_))
 refine zn F18 ?_ ?_<;>intro C62 F19
 refine zi (zd (zb (zl (zb (za ?_)))))
 refine s_mv ?_
 refine s_as ?_
 refine zf (zd ?_)
 refine zP yMix (by kernel_rfl) ?_
 refine s_mv0 ?_
 refine s_mv ?_
 obtain ⟨v63,V63,F20⟩:=zc F19
 refine zgi (Hit.rowO 88) V63 yE30 ?_
 refine s_fa zgD ?_
 refine s_ldD (Hit.rowO 88) Hit.row v63.many Hit.row_plain V63 yA30 yS88 ?_
 refine s_mv ?_
 refine s_mv ?_
 obtain ⟨v64,V64,F21⟩:=zc F20
 refine zN Hit.row V64 (Hit.row_eq _) yE30 ?_
 refine zaI yA88 yS88 ?_
 refine s_lenA yU30 ?_
 refine s_bs Hit.row [(Hit.mk (Form.mk 0 (⟨#[]⟩:ByteArray) 0 ([]:List Int) ([]:List Form)) 0 (Form.mk 0 (⟨#[]⟩:ByteArray) 0 ([]:List Int) ([]:List Form)) ([]:List Hit))] yP30 yR88 ?_
 obtain ⟨hk65,F22⟩:=zat F21
 refine zgC Hit.row (fun y=>Hit.row_len y) hk65 yP30 ?_
 obtain ⟨v66,V66,F23⟩:=zc F22
 refine s_ixA Hit.row V66 yE30 ?_
 refine s_stA Hit.row v64 V66 (Hit.row_eq _) (Hit.row_eq _) yS88 yS88 ?_
 obtain ⟨v67,V67,F24⟩:=zc F23
 refine s_ixH (Hit.rowO 88) V67 yE30 ?_
 refine s_fa zgD ?_
 refine s_stD (Hit.rowO 88) V63 yS30 yS88 ?_
 refine zai (by kernel_rfl) ?_
 refine zY (zd ?_)
 refine awp_jnD 5120 195 12 (Hit.rowO 88) Hit.row (Hit.mk v63.name v63.depth v63.one ((v63.many++[(Hit.mk (Form.mk 0 (⟨#[]⟩:ByteArray) 0 ([]:List Int) ([]:List Form)) 0 (Form.mk 0 (⟨#[]⟩:ByteArray) 0 ([]:List Int) ([]:List Form)) ([]:List Hit))]).set (v63.many.length:Int).toNat v64)) ((v63.many++[(Hit.mk (Form.mk 0 (⟨#[]⟩:ByteArray) 0 ([]:List Int) ([]:List Form)) 0 (Form.mk 0 (⟨#[]⟩:ByteArray) 0 ([]:List Int) ([]:List Form)) ([]:List Hit))]).set (v63.many.length:Int).toNat v64) V63 rfl ?_
 refine za ?_
 refine zE rfl ?_
 refine s_mv ?_
 refine zf ?_
 exact s_rn (fu,(w64 (g59+1)),(g60.set g59.toNat (Hit.mk v63.name v63.depth v63.one ((v63.many++[(Hit.mk (Form.mk 0 (⟨#[]⟩:ByteArray) 0 ([]:List Int) ([]:List Form)) 0 (Form.mk 0 (⟨#[]⟩:ByteArray) 0 ([]:List Int) ([]:List Form)) ([]:List Hit))]).set (v63.many.length:Int).toNat v64)))) ⟨by first | omega | (dsimp only;omega),F24⟩
 refine zA (zr (zp (zu (zY (zd (za ?_))))))
 refine zE rfl ?_
 refine s_mv ?_
 refine zf ?_
 exact s_rn (fu,(w64 (g50+1)),g60) ⟨by first | omega | (dsimp only;omega),F19⟩
 refine zA (zr (zp (zu ?_)))
 exact s_jn (fu,g51) ⟨by first | omega | (dsimp only;omega),F13⟩
 clear F10
 rintro ⟨fu,g68⟩ ⟨hl69,F11⟩
 dsimp only at hl69 F11 ⊢
 obtain _ | fu:=fu
 · rw [zbT] at F11;cases F11
 rw [zbT] at F11
 refine zb ?_
 refine awp_fzD 5120 Hit.row (Hit.rowO 88) (Hit.rowO_fzB 88) (Hit.rowO_fzT 88) (by conv=>lhs;whnf) ?_
 refine za ?_
 refine zq yA30 ?_
 refine s_mv ?_
 obtain ⟨hk70,F12⟩:=zat F11
 refine zgC Hit.row (fun y=>Hit.row_len y) hk70 yP30 ?_
 refine zde yS30 ?_
 refine zf (zd (zb (zb (za ?_))))
 refine s_mv ?_
 refine zE rfl ?_
 refine s_as ?_
 refine zf (zd (zl ?_))
 refine zez 10 203 5200 [.ar 5200] ?_
 refine zap [8,9,27,206,207,208,209,210,211,212,213,214,215,216,217,218,219,220,221,222,223,224,225,226,227,228,229,230,231,232] [10,5200] [42231] [5200] (fun a:Nat × Int × (List Hit)=>a.1) (fun a:Nat × Int × (List Hit)=>[(27,.t (.sc (.int .i64 a.2.1)))]) (fun a:Nat × Int × (List Hit)=>[(10,.box [.ar 5200]),(5200,.arr (a.2.2.map Hit.row) 88 true)]) (fun a:Nat × Int × (List Hit)=>a.1≤fu∧za4 a.1 x1 x2 x3 x4 v11 a.2.1 a.2.2=some r) (fu,(w64 (v11+1)),(g34++g68)) ⟨Nat.le_refl _,F12⟩ (by rfl) (by rfl) (fun _=>rfl) (zZ (by conv=>lhs;whnf) (by rfl) zbP) (zQ (by conv=>lhs;whnf) (by rfl) (zQ (by conv=>lhs;whnf) (by rfl) zbp)) (zcP hC rfl) (by repeat (first | exact zah rfl | refine zaA rfl ?_ | refine zab rfl ?_)) (by repeat (first | exact za5 | exact zal rfl | refine zaB rfl ?_ | refine zac rfl ?_)) ?_
 clear F12
 rintro ⟨fu,g71,g72⟩ ⟨hl73,F13⟩
 dsimp only at hl73 F13 ⊢
 obtain _ | fu:=fu
 · rw [za4] at F13;cases F13
 rw [za4] at F13
 refine zb (zb (za ?_))
 refine s_mv ?_
 refine s_fa zJ ?_
 refine zq yA35 ?_
 refine zB yU35 ?_
 refine s_lt ?_
 refine zf (zd ?_)
 refine zn F13 ?_ ?_<;>intro C74 F14
 refine zH 61 (fun B75=>?_)
 refine zi (zd (zb (zl (zb ?_))))
 refine zP yMix (by kernel_rfl) ?_
 refine s_mv ?_
 refine s_fa zJ ?_
 refine zq yA35 ?_
 refine s_mv ?_
 obtain ⟨v76,V76,F15⟩:=zc F14
 refine zN Form.row V76 (Form.row_eq _) yE35 ?_
 refine zaI yA37 yS37 ?_
 refine s_fa zJ ?_
 refine zq yA35 ?_
 refine s_mv ?_
 refine s_mv ?_
 refine zE rfl ?_
 refine s_mv ?_
 refine zE rfl ?_
 refine s_mv ?_
 refine zfZ rfl ?_
 refine zfZ rfl ?_
 obtain ⟨v77,V77,F16⟩:=zc F15
 refine zN Form.row V77 (Form.row_eq _) yE35 ?_
 refine zaI yA37 yS37 ?_
 obtain ⟨v78,V78,F17⟩:=zc F16
 refine zT [(9000,4),(9001,6),(9002,10),(9460,5200),(10460,42231)] [] _ _ (ih_m_impl_match_1 fu (by omega) _ _ _ _ _ _ V78) ?_
 refine zbh ?_
 refine zai (by kernel_rfl) ?_
 refine zd ?_
 refine zn F17 ?_ ?_<;>intro C79 F18
 refine zb (za ?_)
 refine s_as ?_
 refine s_as ?_
 refine zf (zd (zh (zj (zg (zv (zj (zg (zo ?_))))))))
 cases F18
 exact zk [] [] Tryz.results51
 refine zi (zY (zd (za ?_)))
 refine s_mv ?_
 refine zE (zaF C74 B75 (zbO V76).1) ?_
 refine s_as ?_
 refine zf ?_
 exact s_rn (fu,(g71+1),v78.2) ⟨by first | omega | (dsimp only;omega),F18⟩ [(5200,42231)]
 refine zA (zr (zp (zu (zd (zb (za ?_))))))
 refine zq yA30 ?_
 refine s_as ?_
 refine s_as ?_
 refine zf (zd (zh (zo ?_)))
 cases F14
 exact zk [] [5200] Tryz.results51
theorem m_impl_match_1_st (fu:Nat) (ih_m_impl_match:∀ k,k≤fu→zeu k) (ih_m_impl_match_1:∀ k,k≤fu→zeL k):zeL (fu+1):=by
 intro x1 x2 o1 o2 o3 r F0
 rw [zbU] at F0
 refine AC_i [.t (.sc (.bool r.1))] Tryz.func107 rfl Tryz.ntmps107 ?_
 intro C hC
 refine zb (za ?_)
 refine zbo ?_
 refine zbo ?_
 refine s_as ?_
 refine zf (zd (zb (za ?_)))
 refine zq yA33 ?_
 refine z6 yA37 yS37 ?_
 refine zq yA35 ?_
 refine z6 yA37 yS37 ?_
 obtain ⟨v1,V1,F1⟩:=zc F0
 refine zy [] (ih_m_impl_match fu (by omega) _ _ _ _ _ V1) ?_
 refine s_mv ?_
 refine zdv ?_
 refine zdv ?_
 refine s_as ?_
 refine s_as ?_
 refine zf (zd (zb (za ?_)))
 refine zq yA30 ?_
 refine s_mv ?_
 obtain ⟨hk2,F2⟩:=zat F1
 refine zgC Hit.row (fun y=>Hit.row_len y) hk2 yP30 ?_
 refine zde yS30 ?_
 refine zf (zd (zb (za ?_)))
 refine s_mv ?_
 refine s_as ?_
 refine zf (zd ?_)
 refine zez 9002 20 10460 [.ar 10460] ?_
 refine zh (zo ?_)
 cases F2
 exact zk _ [] Tryz.results107
theorem m_impl_match_all (fuel:Nat):zeu fuel∧zeL fuel:=by
 induction fuel using Nat.strongRecOn with
 | _ N ih =>
   cases N with
   | zero=>exact ⟨(by intro x1 x2 x3 x4 r h;rw [zcg] at h;cases h),(by intro x1 x2 o1 o2 o3 r h;rw [zbU] at h;cases h)⟩
   | succ fu=>exact ⟨m_impl_match_st fu (fun k hk=>(ih k (by omega)).1) (fun k hk=>(ih k (by omega)).2),m_impl_match_1_st fu (fun k hk=>(ih k (by omega)).1) (fun k hk=>(ih k (by omega)).2)⟩
theorem m_impl_match_ok (fuel:Nat):zeu fuel:=(m_impl_match_all fuel).1
def m_impl_MatchPattern_AC (fuel:Nat):Prop:=∀ (x1:(List Bind)) (x2:Form) (x3:(List Form)) (x4:Form) (r:((List Hit) × Bool)),zan fuel x1 x2 x3 x4=some r→AC Tryz.prog 13 [.t (.sl (x1.map Bind.row)),.ag [.t (.sc (.int .i64 x2.kind)),.t (.sc (.str x2.name)),.t (.sc (.int .i64 x2.n)),.t (.sl (x2.scopes.map rI)),.t (.sl (x2.kids.map Form.row))],.t (.sl (x3.map Form.row)),.ag [.t (.sc (.int .i64 x4.kind)),.t (.sc (.str x4.name)),.t (.sc (.int .i64 x4.n)),.t (.sl (x4.scopes.map rI)),.t (.sl (x4.kids.map Form.row))]] noOb (.tp [.t (.sl (r.1.map Hit.row)),.t (.sc (.bool r.2))]) noOb
theorem m_impl_MatchPattern_ok (fuel:Nat):m_impl_MatchPattern_AC fuel:=by
 intro x1 x2 x3 x4 r F0
 unfold zan at F0
 refine AC_i [.t (.sl (r.1.map Hit.row)),.t (.sc (.bool r.2))] Tryz.func13 rfl Tryz.ntmps13 ?_
 intro C hC
 refine zb (za ?_)
 refine zbo ?_
 refine zbo ?_
 refine s_as ?_
 refine s_as ?_
 refine zf (zd (zb ?_))
 refine zdr (α:=Nat × Bool) [12,13,14,15,16,17,18,19,20,21,22,23,24,25] [] [] (fun a=>[(25,.t (.sc (.bool a.2)))]) (fun a=>[]) (fun a=>a.1≤fuel∧zF a.1 x1 x2 x3 x4 a.2=some r) ?_ ?_
 refine za ?_
 refine s_mv ?_
 obtain ⟨v1,V1,F1⟩:=zc F0
 refine zy [] (zdz fuel _ _ V1) ?_
 refine zbh ?_
 refine s_mv ?_
 refine zx _ 15 F1 ?_ ?_<;>intro C2 F2
 iterate 4 refine r_no rfl ?_
 refine zC ?_
 refine s_mv ?_
 iterate 3 refine r_no rfl ?_
 refine zC ?_
 refine zf ?_
 exact s_jn (fuel,true) ⟨by first | omega | (dsimp only;omega),F2⟩
 refine z6 yA37 yS37 ?_
 refine s_mv ?_
 obtain ⟨v3,V3,F3⟩:=zc F2
 refine zy [] (zfK fuel _ _ _ V3) ?_
 refine zbh ?_
 refine zD ?_
 refine s_mv ?_
 refine zx _ 21 F3 ?_ ?_<;>intro C4 F4
 iterate 3 refine r_no rfl ?_
 refine zC ?_
 refine zf ?_
 exact s_jn (fuel,true) ⟨by first | omega | (dsimp only;omega),F4⟩
 refine z6 yA37 yS37 ?_
 obtain ⟨v5,V5,F5⟩:=zc F4
 refine zy [] (zd2 fuel _ _ V5) ?_
 refine zbh ?_
 refine zD ?_
 refine zf ?_
 exact s_jn (fuel,(!v5)) ⟨by first | omega | (dsimp only;omega),F5⟩
 clear F0
 rintro ⟨fu,g6⟩ ⟨hl7,F1⟩
 dsimp only at hl7 F1 ⊢
 obtain _ | fu:=fu
 · rw [zF] at F1;cases F1
 rw [zF] at F1
 refine zn F1 ?_ ?_<;>intro C8 F2
 refine zb (za ?_)
 refine s_as ?_
 refine s_as ?_
 refine zf (zd (zh (zg (zo ?_))))
 cases F2
 exact zk [] [] Tryz.results13
 refine zi (zd (zb (za ?_)))
 refine s_mv ?_
 refine z6 yA37 yS37 ?_
 refine s_mv ?_
 refine z6 yA37 yS37 ?_
 obtain ⟨v9,V9,F3⟩:=zc F2
 refine zy [] (m_impl_match_ok fu _ _ _ _ _ V9) ?_
 refine s_mv ?_
 refine zdv ?_
 refine zdv ?_
 refine s_as ?_
 refine s_as ?_
 refine zf (zd (zb (zb (za ?_))))
 refine s_mv ?_
 refine zbh ?_
 refine zf (zd ?_)
 refine zn F3 ?_ ?_<;>intro C10 F4
 refine zb (za ?_)
 refine s_as ?_
 refine s_as ?_
 refine zf (zd (zh (zg (zo ?_))))
 cases F4
 exact zk [] [] Tryz.results13
 refine zi (zd (zb (za ?_)))
 refine s_mv ?_
 refine s_as ?_
 refine s_as ?_
 refine zf (zd (zh (zo ?_)))
 cases F4
 exact zk [] [] Tryz.results13
def zga (fuel:Nat):Prop:=∀ (x1:(List Bind)) (x2:Form) (x3:(List Form)) (x4:Form) (r:Bool),zci fuel x1 x2 x3 x4=some r→AC Tryz.prog 3 [.t (.sl (x1.map Bind.row)),.ag [.t (.sc (.int .i64 x2.kind)),.t (.sc (.str x2.name)),.t (.sc (.int .i64 x2.n)),.t (.sl (x2.scopes.map rI)),.t (.sl (x2.kids.map Form.row))],.t (.sl (x3.map Form.row)),.ag [.t (.sc (.int .i64 x4.kind)),.t (.sc (.str x4.name)),.t (.sc (.int .i64 x4.n)),.t (.sl (x4.scopes.map rI)),.t (.sl (x4.kids.map Form.row))]] noOb (.t (.sc (.bool r))) noOb
theorem zf9 (fuel:Nat):zga fuel:=by
 intro x1 x2 x3 x4 r F0
 unfold zci at F0
 refine AC_i [.t (.sc (.bool r))] Tryz.func3 rfl Tryz.ntmps3 ?_
 intro C hC
 refine zb (za ?_)
 refine zbo ?_
 refine zbo ?_
 refine s_as ?_
 refine zf (zd (zb (za ?_)))
 refine s_as ?_
 refine zf (zd (zb (za ?_)))
 refine s_mv ?_
 refine s_mv ?_
 obtain ⟨v1,V1,F1⟩:=zc F0
 refine zy [] (m_laws_szBindS_ok fuel _ _ _ V1) ?_
 refine s_as ?_
 refine zf (zd (zb (zb (za ?_))))
 refine s_mv ?_
 refine s_lt ?_
 refine zf (zd ?_)
 refine zn F1 ?_ ?_<;>intro C2 F2
 refine zb (za ?_)
 refine s_as ?_
 refine zf (zd (zh (zg (zo ?_))))
 cases F2
 exact zk [] [] Tryz.results3
 refine zi (zd (zb (za ?_)))
 refine z6 yA26 yS26 ?_
 refine s_mv ?_
 obtain ⟨v3,V3,F3⟩:=zc F2
 refine zy [] (m_laws_szForm_ok fuel _ _ _ V3) ?_
 refine s_as ?_
 refine zf (zd (zb (zb (za ?_))))
 refine s_mv ?_
 refine s_lt ?_
 refine zf (zd ?_)
 refine zn F3 ?_ ?_<;>intro C4 F4
 refine zb (za ?_)
 refine s_as ?_
 refine zf (zd (zh (zg (zo ?_))))
 cases F4
 exact zk [] [] Tryz.results3
 refine zi (zd (zb (za ?_)))
 refine s_mv ?_
 refine s_mv ?_
 obtain ⟨v5,V5,F5⟩:=zc F4
 refine zy [] (m_laws_szFormS_ok fuel _ _ _ V5) ?_
 refine s_as ?_
 refine zf (zd (zb (zb (za ?_))))
 refine s_mv ?_
 refine s_lt ?_
 refine zf (zd ?_)
 refine zn F5 ?_ ?_<;>intro C6 F6
 refine zb (za ?_)
 refine s_as ?_
 refine zf (zd (zh (zg (zo ?_))))
 cases F6
 exact zk [] [] Tryz.results3
 refine zi (zd (zb (za ?_)))
 refine z6 yA26 yS26 ?_
 refine s_mv ?_
 obtain ⟨v7,V7,F7⟩:=zc F6
 refine zy [] (m_laws_szForm_ok fuel _ _ _ V7) ?_
 refine s_as ?_
 refine zf (zd (zb (zb (za ?_))))
 refine s_mv ?_
 refine s_lt ?_
 refine zf (zd ?_)
 refine zn F7 ?_ ?_<;>intro C8 F8
 refine zb (za ?_)
 refine s_as ?_
 refine zf (zd (zh (zg (zo ?_))))
 cases F8
 exact zk [] [] Tryz.results3
 refine zi (zd (zb ?_))
 refine zP yMix (by kernel_rfl) ?_
 refine s_mv ?_
 obtain ⟨v9,V9,F9⟩:=zc F8
 refine zy [] (zfS fuel _ _ V9) ?_
 refine z6 yA26 yS26 ?_
 obtain ⟨v10,V10,F10⟩:=zc F9
 refine zy [] (zda fuel _ _ V10) ?_
 refine s_mv ?_
 obtain ⟨v11,V11,F11⟩:=zc F10
 refine zy [] (zfR fuel _ _ V11) ?_
 refine z6 yA26 yS26 ?_
 obtain ⟨v12,V12,F12⟩:=zc F11
 refine zy [] (zda fuel _ _ V12) ?_
 obtain ⟨v13,V13,F13⟩:=zc F12
 refine zT [(9200,2052)] [] _ _ (m_spec_MatchPattern_ok fuel _ _ _ _ _ V13) ?_
 refine s_mv ?_
 refine zdv ?_
 refine zdv ?_
 refine s_as ?_
 refine s_as ?_
 refine zai (by kernel_rfl) ?_
 refine zd (zb (za ?_))
 refine s_mv ?_
 obtain ⟨v14,V14,F14⟩:=zc F13
 refine zT [(9200,2056)] [] _ _ (m_laws_toBindS_D_ok fuel _ _ V14) ?_
 refine s_as ?_
 refine zf (zd (zb (za ?_)))
 refine z6 yA26 yS26 ?_
 obtain ⟨v15,V15,F15⟩:=zc F14
 refine zT [(9203,2058),(9204,12058)] [] _ _ (zgO fuel _ _ V15) ?_
 refine zaN yZ37 ?_
 refine zde yS37 ?_
 refine zf (zd (zb (za ?_)))
 refine s_mv ?_
 obtain ⟨v16,V16,F16⟩:=zc F15
 refine zT [(9200,2060)] [] _ _ (m_laws_toFormS_D_ok fuel _ _ V16) ?_
 refine s_as ?_
 refine zf (zd (zb (za ?_)))
 refine z6 yA26 yS26 ?_
 obtain ⟨v17,V17,F17⟩:=zc F16
 refine zT [(9203,2062),(9204,12062)] [] _ _ (zgO fuel _ _ V17) ?_
 refine zaN yZ37 ?_
 refine zde yS37 ?_
 refine zf (zd (zb (za ?_)))
 refine s_mv ?_
 refine z6 yA37 yS37 ?_
 refine s_mv ?_
 refine z6 yA37 yS37 ?_
 obtain ⟨v18,V18,F18⟩:=zc F17
 refine zT [(9700,2056),(9701,2058),(9702,12058),(9703,2060),(9704,2062),(9705,12062),(9200,2068)] [] [(9700,.dar (v14.map (Bind.rowD 3)) 83),(9701,.arr (v15.scopes.map rI) 3 true),(9702,.dar (v15.kids.map (Form.rowD 3 37)) 37),(9703,.dar (v16.map (Form.rowD 3 37)) 37),(9704,.arr (v17.scopes.map rI) 3 true),(9705,.dar (v17.kids.map (Form.rowD 3 37)) 37)] [(9700,.dar (v14.map (Bind.rowD 3)) 83),(9701,.arr (v15.scopes.map rI) 3 true),(9702,.dar (v15.kids.map (Form.rowD 3 37)) 37),(9703,.dar (v16.map (Form.rowD 3 37)) 37),(9704,.arr (v17.scopes.map rI) 3 true),(9705,.dar (v17.kids.map (Form.rowD 3 37)) 37),(9200,.dar (v18.1.map (Hit.rowD 3 37 88)) 88)] (zgU (args:=[.ar 9700,.ag [.t (.sc (.int .i64 v15.kind)),.t (.sc (.str v15.name)),.t (.sc (.int .i64 v15.n)),.ar 9701,.ar 9702],.ar 9703,.ag [.t (.sc (.int .i64 v17.kind)),.t (.sc (.str v17.name)),.t (.sc (.int .i64 v17.n)),.ar 9704,.ar 9705]]) [(9700,.dar (v14.map (Bind.rowD 3)) 83),(9701,.arr (v15.scopes.map rI) 3 true),(9702,.dar (v15.kids.map (Form.rowD 3 37)) 37),(9703,.dar (v16.map (Form.rowD 3 37)) 37),(9704,.arr (v17.scopes.map rI) 3 true),(9705,.dar (v17.kids.map (Form.rowD 3 37)) 37)] [(9200,.dar (v18.1.map (Hit.rowD 3 37 88)) 88)] (zg8 fuel _ _ _ _ _ V18) rfl (by simp only [V.lendL,V.lend,zaY,zdT,Nat.reduceEqDiff,reduceIte,if_true,if_false,Form.lendM,Core.lendM,Hit.lendM,Rule.lendM,Bind.lendM,zaQ.lendM];try rfl) (by rfl) (by rfl) (by rfl) (by rfl) (by simp only [List.all_cons,List.all_nil,Ob.flat,zfE,zgy,Form.flatM,Core.flatM,Hit.flatM,Rule.flatM,Bind.flatM,zaQ.flatM,Bool.and_self,Bool.true_and]) (by rfl)) ?_
 refine s_mv ?_
 refine zdv ?_
 refine zdv ?_
 refine s_as ?_
 refine s_as ?_
 refine zf (zd (zb ?_))
 refine zdr (α:=Nat × Bool) [71,72,73,74,75,76,77,78,79] [] [] (fun a=>[(79,.t (.sc (.bool a.2)))]) (fun a=>[]) (fun a=>a.1≤fuel∧zaz a.1 x1 x2 x3 x4 v13 v14 v15 v16 v17 v18 a.2=some r) ?_ ?_
 refine za ?_
 refine s_mv ?_
 refine s_mv ?_
 obtain ⟨v19,V19,F19⟩:=zc F18
 refine zT [(9700,2068),(9701,2052)] [] [(9700,.dar (v18.1.map (Hit.rowD 3 37 88)) 88),(9701,.arr (v13.1.map Hit.row) 88 true)] [(9700,.dar (v18.1.map (Hit.rowD 3 37 88)) 88),(9701,.arr (v13.1.map Hit.row) 88 true)] (zgU (args:=[.ar 9700,.ar 9701]) [(9700,.dar (v18.1.map (Hit.rowD 3 37 88)) 88),(9701,.arr (v13.1.map Hit.row) 88 true)] [] (zf8 fuel _ _ _ V19) rfl (by simp only [V.lendL,V.lend,zaY,zdT,Nat.reduceEqDiff,reduceIte,if_true,if_false,Form.lendM,Core.lendM,Hit.lendM,Rule.lendM,Bind.lendM,zaQ.lendM];try rfl) (by rfl) (by rfl) (by rfl) (by rfl) (by simp only [List.all_cons,List.all_nil,Ob.flat,zfE,zgy,Form.flatM,Core.flatM,Hit.flatM,Rule.flatM,Bind.flatM,zaQ.flatM,Bool.and_self,Bool.true_and]) (by rfl)) ?_
 refine zbh ?_
 refine s_mv ?_
 refine zx _ 75 F19 ?_ ?_<;>intro C20 F20
 iterate 3 refine r_no rfl ?_
 refine zC ?_
 refine zf ?_
 exact s_jn (fuel,true) ⟨by first | omega | (dsimp only;omega),F20⟩
 refine s_mv ?_
 refine s_mv ?_
 refine s_neB yU4 ?_
 refine zD ?_
 refine zf ?_
 exact s_jn (fuel,(decide (v18.2≠v13.2))) ⟨by first | omega | (dsimp only;omega),F20⟩
 clear F18
 rintro ⟨fu,g21⟩ ⟨hl22,F19⟩
 dsimp only at hl22 F19 ⊢
 obtain _ | fu:=fu
 · rw [zaz] at F19;cases F19
 rw [zaz] at F19
 refine zn F19 ?_ ?_<;>intro C23 F20
 refine zb (za ?_)
 refine s_as ?_
 refine zf (zd (zh (zg (zo ?_))))
 cases F20
 exact zk [] [] Tryz.results3
 refine zi (zd (zb (zb (za ?_))))
 refine s_mv ?_
 refine s_mv ?_
 obtain ⟨v24,V24,F21⟩:=zc F20
 refine zy [] (zfS fu _ _ V24) ?_
 obtain ⟨v25,V25,F22⟩:=zc F21
 refine zT [(9700,2056)] [] [(9700,.dar (v14.map (Bind.rowD 3)) 83)] [(9700,.dar (v14.map (Bind.rowD 3)) 83)] (zgU (args:=[.ar 9700,.t (.sl (v24.map Bind.row))]) [(9700,.dar (v14.map (Bind.rowD 3)) 83)] [] (m_laws_eqBindS_ok fu _ _ _ V25) rfl (by simp only [V.lendL,V.lend,zaY,zdT,Nat.reduceEqDiff,reduceIte,if_true,if_false,Form.lendM,Core.lendM,Hit.lendM,Rule.lendM,Bind.lendM,zaQ.lendM];try rfl) (by rfl) (by rfl) (by rfl) (by rfl) (by simp only [List.all_cons,List.all_nil,Ob.flat,zfE,zgy,Form.flatM,Core.flatM,Hit.flatM,Rule.flatM,Bind.flatM,zaQ.flatM,Bool.and_self,Bool.true_and]) (by rfl)) ?_
 refine zbh ?_
 refine zf (zd ?_)
 refine zn F22 ?_ ?_<;>intro C26 F23
 refine zb (za ?_)
 refine s_as ?_
 refine zf (zd (zh (zg (zo ?_))))
 cases F23
 exact zk [] [] Tryz.results3
 refine zi (zd (zb (zb ?_)))
 refine zP yMix (by kernel_rfl) ?_
 refine z6 yA37 yS37 ?_
 refine z6 yA26 yS26 ?_
 obtain ⟨v27,V27,F24⟩:=zc F23
 refine zy [] (zda fu _ _ V27) ?_
 obtain ⟨v28,V28,F25⟩:=zc F24
 refine zT [(9700,2058),(9701,12058)] [] [(9700,.arr (v15.scopes.map rI) 3 true),(9701,.dar (v15.kids.map (Form.rowD 3 37)) 37)] [(9700,.arr (v15.scopes.map rI) 3 true),(9701,.dar (v15.kids.map (Form.rowD 3 37)) 37)] (zgU (args:=[.ag [.t (.sc (.int .i64 v15.kind)),.t (.sc (.str v15.name)),.t (.sc (.int .i64 v15.n)),.ar 9700,.ar 9701],.ag [.t (.sc (.int .i64 v27.kind)),.t (.sc (.str v27.name)),.t (.sc (.int .i64 v27.n)),.t (.sl (v27.scopes.map rI)),.t (.sl (v27.kids.map Form.row))]]) [(9700,.arr (v15.scopes.map rI) 3 true),(9701,.dar (v15.kids.map (Form.rowD 3 37)) 37)] [] (ze4 fu _ _ _ V28) rfl (by simp only [V.lendL,V.lend,zaY,zdT,Nat.reduceEqDiff,reduceIte,if_true,if_false,Form.lendM,Core.lendM,Hit.lendM,Rule.lendM,Bind.lendM,zaQ.lendM];try rfl) (by rfl) (by rfl) (by rfl) (by rfl) (by simp only [List.all_cons,List.all_nil,Ob.flat,zfE,zgy,Form.flatM,Core.flatM,Hit.flatM,Rule.flatM,Bind.flatM,zaQ.flatM,Bool.and_self,Bool.true_and]) (by rfl)) ?_
 refine zbh ?_
 refine zai (by kernel_rfl) ?_
 refine zd ?_
 refine zn F25 ?_ ?_<;>intro C29 F26
 refine zb (za ?_)
 refine s_as ?_
 refine zf (zd (zh (zg (zo ?_))))
 cases F26
 exact zk [] [] Tryz.results3
 refine zi (zd (zb (zb (za ?_))))
 refine s_mv ?_
 refine s_mv ?_
 obtain ⟨v30,V30,F27⟩:=zc F26
 refine zy [] (zfR fu _ _ V30) ?_
 obtain ⟨v31,V31,F28⟩:=zc F27
 refine zT [(9700,2060)] [] [(9700,.dar (v16.map (Form.rowD 3 37)) 37)] [(9700,.dar (v16.map (Form.rowD 3 37)) 37)] (zgU (args:=[.ar 9700,.t (.sl (v30.map Form.row))]) [(9700,.dar (v16.map (Form.rowD 3 37)) 37)] [] (m_laws_eqFormS_ok fu _ _ _ V31) rfl (by simp only [V.lendL,V.lend,zaY,zdT,Nat.reduceEqDiff,reduceIte,if_true,if_false,Form.lendM,Core.lendM,Hit.lendM,Rule.lendM,Bind.lendM,zaQ.lendM];try rfl) (by rfl) (by rfl) (by rfl) (by rfl) (by simp only [List.all_cons,List.all_nil,Ob.flat,zfE,zgy,Form.flatM,Core.flatM,Hit.flatM,Rule.flatM,Bind.flatM,zaQ.flatM,Bool.and_self,Bool.true_and]) (by rfl)) ?_
 refine zbh ?_
 refine zf (zd ?_)
 refine zn F28 ?_ ?_<;>intro C32 F29
 refine zb (za ?_)
 refine s_as ?_
 refine zf (zd (zh (zg (zo ?_))))
 cases F29
 exact zk [] [] Tryz.results3
 refine zi (zd (zb (zb ?_)))
 refine zP yMix (by kernel_rfl) ?_
 refine z6 yA37 yS37 ?_
 refine z6 yA26 yS26 ?_
 obtain ⟨v33,V33,F30⟩:=zc F29
 refine zy [] (zda fu _ _ V33) ?_
 obtain ⟨v34,V34,F31⟩:=zc F30
 refine zT [(9700,2062),(9701,12062)] [] [(9700,.arr (v17.scopes.map rI) 3 true),(9701,.dar (v17.kids.map (Form.rowD 3 37)) 37)] [(9700,.arr (v17.scopes.map rI) 3 true),(9701,.dar (v17.kids.map (Form.rowD 3 37)) 37)] (zgU (args:=[.ag [.t (.sc (.int .i64 v17.kind)),.t (.sc (.str v17.name)),.t (.sc (.int .i64 v17.n)),.ar 9700,.ar 9701],.ag [.t (.sc (.int .i64 v33.kind)),.t (.sc (.str v33.name)),.t (.sc (.int .i64 v33.n)),.t (.sl (v33.scopes.map rI)),.t (.sl (v33.kids.map Form.row))]]) [(9700,.arr (v17.scopes.map rI) 3 true),(9701,.dar (v17.kids.map (Form.rowD 3 37)) 37)] [] (ze4 fu _ _ _ V34) rfl (by simp only [V.lendL,V.lend,zaY,zdT,Nat.reduceEqDiff,reduceIte,if_true,if_false,Form.lendM,Core.lendM,Hit.lendM,Rule.lendM,Bind.lendM,zaQ.lendM];try rfl) (by rfl) (by rfl) (by rfl) (by rfl) (by simp only [List.all_cons,List.all_nil,Ob.flat,zfE,zgy,Form.flatM,Core.flatM,Hit.flatM,Rule.flatM,Bind.flatM,zaQ.flatM,Bool.and_self,Bool.true_and]) (by rfl)) ?_
 refine zbh ?_
 refine zai (by kernel_rfl) ?_
 refine zd ?_
 refine zn F31 ?_ ?_<;>intro C35 F32
 refine zb (za ?_)
 refine s_as ?_
 refine zf (zd (zh (zg (zo ?_))))
 cases F32
 exact zk [] [] Tryz.results3
 refine zi (zd (zb (za ?_)))
 refine s_as ?_
 refine zf (zd (zb (za ?_)))
 refine s_mv ?_
 refine s_mv ?_
 obtain ⟨v36,V36,F33⟩:=zc F32
 refine zT [(9300,2056)] [] _ _ (m_laws_markBindS_D_ok fu _ _ _ V36) ?_
 refine s_as ?_
 refine zf (zd (zb (za ?_)))
 refine z6 yA37 yS37 ?_
 refine s_mv ?_
 obtain ⟨v37,V37,F34⟩:=zc F33
 refine zT [(9303,2058),(9304,12058)] [] _ _ (zgf fu _ _ _ V37) ?_
 refine s_as ?_
 refine zf (zd (zb (za ?_)))
 refine s_mv ?_
 refine s_mv ?_
 obtain ⟨v38,V38,F35⟩:=zc F34
 refine zT [(9300,2060)] [] _ _ (zdj fu _ _ _ V38) ?_
 refine s_as ?_
 refine zf (zd (zb (za ?_)))
 refine z6 yA37 yS37 ?_
 refine s_mv ?_
 obtain ⟨v39,V39,F36⟩:=zc F35
 refine zT [(9303,2062),(9304,12062)] [] _ _ (zgf fu _ _ _ V39) ?_
 refine s_as ?_
 refine zf (zd (zb ?_))
 refine zdr (α:=Nat × Bool) [112,113,114,115,116,117,118,119,120,121,122,123,124] [] [] (fun a=>[(124,.t (.sc (.bool a.2)))]) (fun a=>[]) (fun a=>a.1≤fu∧zag a.1 x1 x2 x3 x4 v13 v18 a.2=some r) ?_ ?_
 refine za ?_
 refine s_mv ?_
 refine s_lt ?_
 refine s_mv ?_
 refine zx _ 114 F36 ?_ ?_<;>intro C40 F37
 iterate 4 refine r_no rfl ?_
 refine zC ?_
 refine s_mv ?_
 iterate 3 refine r_no rfl ?_
 refine zC ?_
 refine zf ?_
 exact s_jn (fu,true) ⟨by first | omega | (dsimp only;omega),F37⟩
 refine s_mv ?_
 refine s_mv ?_
 obtain ⟨v41,V41,F38⟩:=zc F37
 refine zT [(9700,2068),(9701,2052)] [] [(9700,.dar (v18.1.map (Hit.rowD 3 37 88)) 88),(9701,.arr (v13.1.map Hit.row) 88 true)] [(9700,.dar (v18.1.map (Hit.rowD 3 37 88)) 88),(9701,.arr (v13.1.map Hit.row) 88 true)] (zgU (args:=[.ar 9700,.ar 9701]) [(9700,.dar (v18.1.map (Hit.rowD 3 37 88)) 88),(9701,.arr (v13.1.map Hit.row) 88 true)] [] (zf8 fu _ _ _ V41) rfl (by simp only [V.lendL,V.lend,zaY,zdT,Nat.reduceEqDiff,reduceIte,if_true,if_false,Form.lendM,Core.lendM,Hit.lendM,Rule.lendM,Bind.lendM,zaQ.lendM];try rfl) (by rfl) (by rfl) (by rfl) (by rfl) (by simp only [List.all_cons,List.all_nil,Ob.flat,zfE,zgy,Form.flatM,Core.flatM,Hit.flatM,Rule.flatM,Bind.flatM,zaQ.flatM,Bool.and_self,Bool.true_and]) (by rfl)) ?_
 refine zbh ?_
 refine zD ?_
 refine s_mv ?_
 refine zx _ 120 F38 ?_ ?_<;>intro C42 F39
 iterate 3 refine r_no rfl ?_
 refine zC ?_
 refine zf ?_
 exact s_jn (fu,true) ⟨by first | omega | (dsimp only;omega),F39⟩
 refine s_mv ?_
 refine s_mv ?_
 refine s_neB yU4 ?_
 refine zD ?_
 refine zf ?_
 exact s_jn (fu,(decide (v18.2≠v13.2))) ⟨by first | omega | (dsimp only;omega),F39⟩
 clear F36
 rintro ⟨fu,g43⟩ ⟨hl44,F37⟩
 dsimp only at hl44 F37 ⊢
 obtain _ | fu:=fu
 · rw [zag] at F37;cases F37
 rw [zag] at F37
 refine zn F37 ?_ ?_<;>intro C45 F38
 refine zb (za ?_)
 refine s_as ?_
 refine zf (zd (zh (zg (zo ?_))))
 cases F38
 exact zk [] [] Tryz.results3
 refine zi (zd (zb (za ?_)))
 refine s_as ?_
 refine zf (zd (zb (za ?_)))
 refine s_mv ?_
 refine s_mv ?_
 obtain ⟨v46,V46,F39⟩:=zc F38
 refine zT [(9300,2068)] [] _ _ (m_laws_markHitS_D_ok fu _ _ _ V46) ?_
 refine s_as ?_
 refine zf (zd (zb (za ?_)))
 refine s_as ?_
 refine zf (zd (zb (za ?_)))
 refine s_mv ?_
 refine s_mv ?_
 obtain ⟨v47,V47,F40⟩:=zc F39
 refine zT [(9700,2068)] [] [(9700,.dar (v46.2.map (Hit.rowD 3 37 88)) 88)] [(9700,.dar (v46.2.map (Hit.rowD 3 37 88)) 88)] (zgU (args:=[.ar 9700,.t (.sc (.int .i64 1))]) [(9700,.dar (v46.2.map (Hit.rowD 3 37 88)) 88)] [] (zgP fu _ _ _ V47) rfl (by simp only [V.lendL,V.lend,zaY,zdT,Nat.reduceEqDiff,reduceIte,if_true,if_false,Form.lendM,Core.lendM,Hit.lendM,Rule.lendM,Bind.lendM,zaQ.lendM];try rfl) (by rfl) (by rfl) (by rfl) (by rfl) (by simp only [List.all_cons,List.all_nil,Ob.flat,zfE,zgy,Form.flatM,Core.flatM,Hit.flatM,Rule.flatM,Bind.flatM,zaQ.flatM,Bool.and_self,Bool.true_and]) (by rfl)) ?_
 refine s_as ?_
 refine zf (zd (zb (zb (za ?_))))
 refine s_mv ?_
 refine s_lt ?_
 refine zf (zd ?_)
 refine zn F40 ?_ ?_<;>intro C48 F41
 refine zb (za ?_)
 refine s_as ?_
 refine zf (zd (zh (zg (zo ?_))))
 cases F41
 exact zk [] [] Tryz.results3
 refine zi (zd (zb (zb (za ?_))))
 refine s_mv ?_
 refine s_mv ?_
 refine s_ne ?_
 refine zf (zd ?_)
 refine zn F41 ?_ ?_<;>intro C49 F42
 refine zb (za ?_)
 refine s_as ?_
 refine zf (zd (zh (zg (zo ?_))))
 cases F42
 exact zk [] [] Tryz.results3
 refine zi (zd (zb ?_))
 refine zP yMix (by kernel_rfl) ?_
 refine s_mv ?_
 obtain ⟨v50,V50,F43⟩:=zc F42
 refine zy [] (zfS fu _ _ V50) ?_
 refine z6 yA26 yS26 ?_
 obtain ⟨v51,V51,F44⟩:=zc F43
 refine zy [] (zda fu _ _ V51) ?_
 refine s_mv ?_
 obtain ⟨v52,V52,F45⟩:=zc F44
 refine zy [] (zfR fu _ _ V52) ?_
 refine z6 yA26 yS26 ?_
 obtain ⟨v53,V53,F46⟩:=zc F45
 refine zy [] (zda fu _ _ V53) ?_
 obtain ⟨v54,V54,F47⟩:=zc F46
 refine zy [] (m_impl_MatchPattern_ok fu _ _ _ _ _ V54) ?_
 refine s_mv ?_
 refine zdv ?_
 refine zdv ?_
 refine s_as ?_
 refine s_as ?_
 refine zai (by kernel_rfl) ?_
 refine zd (zb ?_)
 refine zdr (α:=Nat × Bool) [148,149,150,151,152,153,154,155,156] [] [] (fun a=>[(156,.t (.sc (.bool a.2)))]) (fun a=>[]) (fun a=>a.1≤fu∧zay a.1 v46 a.2=some r) ?_ ?_
 refine za ?_
 refine s_mv ?_
 refine s_mv ?_
 obtain ⟨v55,V55,F48⟩:=zc F47
 refine zT [(9700,2052)] [] [(9700,.arr (v13.1.map Hit.row) 88 true)] [(9700,.arr (v13.1.map Hit.row) 88 true)] (zgU (args:=[.t (.sl (v54.1.map Hit.row)),.ar 9700]) [(9700,.arr (v13.1.map Hit.row) 88 true)] [] (zf8 fu _ _ _ V55) rfl (by simp only [V.lendL,V.lend,zaY,zdT,Nat.reduceEqDiff,reduceIte,if_true,if_false,Form.lendM,Core.lendM,Hit.lendM,Rule.lendM,Bind.lendM,zaQ.lendM];try rfl) (by rfl) (by rfl) (by rfl) (by rfl) (by simp only [List.all_cons,List.all_nil,Ob.flat,zfE,zgy,Form.flatM,Core.flatM,Hit.flatM,Rule.flatM,Bind.flatM,zaQ.flatM,Bool.and_self,Bool.true_and]) (by rfl)) ?_
 refine zbh ?_
 refine s_mv ?_
 refine zx _ 152 F48 ?_ ?_<;>intro C56 F49
 iterate 3 refine r_no rfl ?_
 refine zC ?_
 refine zf ?_
 exact s_jn (fu,true) ⟨by first | omega | (dsimp only;omega),F49⟩
 refine s_mv ?_
 refine s_mv ?_
 refine s_neB yU4 ?_
 refine zD ?_
 refine zf ?_
 exact s_jn (fu,(decide (v54.2≠v13.2))) ⟨by first | omega | (dsimp only;omega),F49⟩
 clear F47
 rintro ⟨fu,g57⟩ ⟨hl58,F48⟩
 dsimp only at hl58 F48 ⊢
 obtain _ | fu:=fu
 · rw [zay] at F48;cases F48
 rw [zay] at F48
 refine zn F48 ?_ ?_<;>intro C59 F49
 refine zb (za ?_)
 refine s_as ?_
 refine zf (zd (zh (zg (zo ?_))))
 cases F49
 exact zk [] [] Tryz.results3
 refine zi (zd (zb (za ?_)))
 refine s_as ?_
 refine zf (zd (zb (za ?_)))
 refine s_mv ?_
 refine s_mv ?_
 obtain ⟨v60,V60,F50⟩:=zc F49
 refine zT [(9700,2068)] [] [(9700,.dar (v46.2.map (Hit.rowD 3 37 88)) 88)] [(9700,.dar (v46.2.map (Hit.rowD 3 37 88)) 88)] (zgU (args:=[.ar 9700,.t (.sc (.int .i64 1))]) [(9700,.dar (v46.2.map (Hit.rowD 3 37 88)) 88)] [] (zgP fu _ _ _ V60) rfl (by simp only [V.lendL,V.lend,zaY,zdT,Nat.reduceEqDiff,reduceIte,if_true,if_false,Form.lendM,Core.lendM,Hit.lendM,Rule.lendM,Bind.lendM,zaQ.lendM];try rfl) (by rfl) (by rfl) (by rfl) (by rfl) (by simp only [List.all_cons,List.all_nil,Ob.flat,zfE,zgy,Form.flatM,Core.flatM,Hit.flatM,Rule.flatM,Bind.flatM,zaQ.flatM,Bool.and_self,Bool.true_and]) (by rfl)) ?_
 refine s_as ?_
 refine zf (zd (zb (zb (za ?_))))
 refine s_mv ?_
 refine s_lt ?_
 refine zf (zd ?_)
 refine zn F50 ?_ ?_<;>intro C61 F51
 refine zb (za ?_)
 refine s_as ?_
 refine zf (zd (zh (zg (zo ?_))))
 cases F51
 exact zk [] [] Tryz.results3
 refine zi (zd (zb (zb (za ?_))))
 refine s_mv ?_
 refine s_mv ?_
 refine s_ne ?_
 refine zf (zd ?_)
 refine zn F51 ?_ ?_<;>intro C62 F52
 refine zb (za ?_)
 refine s_as ?_
 refine zf (zd (zh (zg (zo ?_))))
 cases F52
 exact zk [] [] Tryz.results3
 refine zi (zd (zb (za ?_)))
 refine s_as ?_
 refine zf (zd (zh (zo ?_)))
 cases F52
 exact zk [] [] Tryz.results3
end Go.Abs
