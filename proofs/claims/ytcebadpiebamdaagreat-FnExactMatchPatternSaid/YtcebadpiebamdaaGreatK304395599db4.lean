/- A part of the proof: what the functions that the law calls answer, as pure values. -/
import Derived.Test.YtcebadpiebamdaaGreatK006dda84d553
import Derived.Test.YtcebadpiebamdaaGreatK08b3b0a7b863
import Derived.Test.YtcebadpiebamdaaGreatK863b9396a6d1
import Derived.Test.YtcebadpiebamdaaGreatKd2883bf7562e
import Derived.Test.YtcebadpiebamdaaGreatK0c09c3f6594f
set_option linter.unusedSimpArgs false
set_option linter.unusedVariables false
set_option maxRecDepth 100000
set_option maxHeartbeats 4000000
namespace Go.Abs
open Go.Proofs
def m_spec_l3Same_AC (fuel:Nat):Prop:=∀ (x1:(List Bind)) (x2:Form) (x3:Form) (r:Bool),zfr fuel x1 x2 x3=some r→AC Tryz.prog 88 [.t (.sl (x1.map Bind.row)),.ag [.t (.sc (.int .i64 x2.kind)),.t (.sc (.str x2.name)),.t (.sc (.int .i64 x2.n)),.t (.sl (x2.scopes.map rI)),.t (.sl (x2.kids.map Form.row))],.ag [.t (.sc (.int .i64 x3.kind)),.t (.sc (.str x3.name)),.t (.sc (.int .i64 x3.n)),.t (.sl (x3.scopes.map rI)),.t (.sl (x3.kids.map Form.row))]] noOb (.t (.sc (.bool r))) noOb
theorem m_spec_l3Same_ok (fuel:Nat):m_spec_l3Same_AC fuel:=by
 intro x1 x2 x3 r F0
 unfold zfr at F0
 refine AC_i [.t (.sc (.bool r))] Tryz.func88 rfl Tryz.ntmps88 ?_
 intro C hC
 refine zb (za ?_)
 refine zbo ?_
 refine zbo ?_
 refine s_as ?_
 refine zf (zd (zb (za ?_)))
 refine s_mv ?_
 refine z6 yA37 yS37 ?_
 obtain ⟨v1,V1,F1⟩:=zc F0
 refine zy [] (m_spec_l3Find_ok fuel _ _ _ V1) ?_
 refine s_mv ?_
 refine zdv ?_
 refine zdv ?_
 refine s_as ?_
 refine s_as ?_
 refine zf (zd (zb (za ?_)))
 refine s_mv ?_
 refine z6 yA37 yS37 ?_
 obtain ⟨v2,V2,F2⟩:=zc F1
 refine zy [] (m_spec_l3Find_ok fuel _ _ _ V2) ?_
 refine s_mv ?_
 refine zdv ?_
 refine zdv ?_
 refine s_as ?_
 refine s_as ?_
 refine zf (zd (zb ?_))
 refine zdr (α:=Nat × Bool) [23,24,25,26,27,28,29] [] [] (fun a=>[(29,.t (.sc (.bool a.2)))]) (fun a=>[]) (fun a=>a.1≤fuel∧zcI a.1 x1 x2 x3 v1 v2 a.2=some r) ?_ ?_
 refine za ?_
 refine s_mv ?_
 refine s_mv ?_
 refine s_ne ?_
 refine s_mv ?_
 refine zx _ 26 F2 ?_ ?_<;>intro C3 F3
 refine r_no rfl (r_no rfl ?_)
 refine zC ?_
 refine zf ?_
 exact s_jn (fuel,true) ⟨by first | omega | (dsimp only;omega),F3⟩
 refine s_mv ?_
 refine s_eq ?_
 refine zD ?_
 refine zf ?_
 exact s_jn (fuel,(decide (v1.2=2))) ⟨by first | omega | (dsimp only;omega),F3⟩
 clear F2
 rintro ⟨fu,g4⟩ ⟨hl5,F3⟩
 dsimp only at hl5 F3 ⊢
 obtain _ | fu:=fu
 · rw [zcI] at F3;cases F3
 rw [zcI] at F3
 refine zn F3 ?_ ?_<;>intro C6 F4
 refine zb (za ?_)
 refine s_as ?_
 refine zf (zd (zh (zg (zo ?_))))
 cases F4
 exact zk [] [] Tryz.results88
 refine zi (zd (zb (zb (za ?_))))
 refine s_mv ?_
 refine s_eq ?_
 refine zf (zd ?_)
 refine zn F4 ?_ ?_<;>intro C7 F5
 refine zb (za ?_)
 refine s_fa zbC ?_
 refine zq yA9 ?_
 refine s_fa zbC ?_
 refine zq yA9 ?_
 refine zgj ?_
 refine s_as ?_
 refine zf (zd (zh (zg (zo ?_))))
 cases F5
 exact zk [] [] Tryz.results88
 refine zi (zd (zb ?_))
 refine zP yMix (by kernel_rfl) ?_
 refine s_mv ?_
 refine s_mv ?_
 obtain ⟨v8,V8,F6⟩:=zc F5
 refine zN Bind.row V8 (Bind.row_eq _) yE33 ?_
 refine s_fa yF83_2 ?_
 refine zq yA3 ?_
 refine s_mv ?_
 refine s_mv ?_
 obtain ⟨v9,V9,F7⟩:=zc F6
 refine zN Bind.row V9 (Bind.row_eq _) yE33 ?_
 refine s_fa yF83_2 ?_
 refine zq yA3 ?_
 refine s_eq ?_
 refine s_as ?_
 refine zai (by kernel_rfl) ?_
 refine zd (zh (zo ?_))
 cases F7
 exact zk [] [] Tryz.results88
def m_spec_l4Row_AC (fuel:Nat):Prop:=∀ (x1:Form) (x2:(List Form)) (x3:(List (List Hit))) (r:(List Hit)),zf1 fuel x1 x2 x3=some r→AC Tryz.prog 129 [.ag [.t (.sc (.int .i64 x1.kind)),.t (.sc (.str x1.name)),.t (.sc (.int .i64 x1.n)),.t (.sl (x1.scopes.map rI)),.t (.sl (x1.kids.map Form.row))],.t (.sl (x2.map Form.row)),.t (.sl (x3.map (rL Hit.row)))] noOb (.t (.sl (r.map Hit.row))) noOb
theorem m_spec_l4Row_ok (fuel:Nat):m_spec_l4Row_AC fuel:=by
 intro x1 x2 x3 r F0
 unfold zf1 at F0
 refine AC_i [.t (.sl (r.map Hit.row))] Tryz.func129 rfl Tryz.ntmps129 ?_
 intro C hC
 refine zb (za ?_)
 refine zbo ?_
 refine s_as ?_
 refine zf (zd (zb (za ?_)))
 refine s_bs Hit.row ([]:List Hit) yP30 yR88 ?_
 refine s_as ?_
 refine zf (zd (zb (za ?_)))
 refine s_bs Form.row ([]:List Form) yP35 yR37 ?_
 refine z6 yA37 yS37 ?_
 refine s_mv ?_
 obtain ⟨v1,V1,F1⟩:=zc F0
 refine zT [(9300,14),(9200,12017)] [] _ _ (m_spec_l4Vars_ok fuel _ _ _ _ V1) ?_
 refine s_as ?_
 refine zf (zd (zb (za ?_)))
 refine s_bs rI ([]:List Int) yP23 yR3 ?_
 refine z6 yA37 yS37 ?_
 refine s_mv ?_
 obtain ⟨v2,V2,F2⟩:=zc F1
 refine zT [(9300,18),(9200,12021)] [] _ _ (zgK fuel _ _ _ _ _ V2) ?_
 refine s_as ?_
 refine zf (zd (zb (zb (za ?_))))
 refine s_as ?_
 refine zf (zd (zl ?_))
 refine zeY 7 13 5020 (by conv=>lhs;whnf) (by conv=>lhs;whnf) rfl ?_
 refine zap [7,10,11,12,22,23,24,25,26,27,28,29,30,31,32,33,34,35,36,37,38,39,40,41,42,43,44,45,46,47,48,49,50,51,52,53,54,55,56,57,58,59] [5020] [11,58,59,5040] [5020] (fun a:Nat × (List Hit) × Int=>a.1) (fun a:Nat × (List Hit) × Int=>[(7,.ar 5020),(10,.t (.sc (.int .i64 a.2.2)))]) (fun a:Nat × (List Hit) × Int=>[(5020,.arr (a.2.1.map Hit.row) 88 true)]) (fun a:Nat × (List Hit) × Int=>a.1≤fuel∧zcw a.1 x3 v1 v2 a.2.1 a.2.2=some r) (fuel,([]:List Hit),0) ⟨Nat.le_refl _,F2⟩ (by rfl) (by rfl) (fun _=>rfl) (zZ (by conv=>lhs;whnf) (by rfl) (zZ (by conv=>lhs;whnf) (by rfl) zbP)) (zQ (by conv=>lhs;whnf) (by rfl) zbp) (zcP hC rfl) (by repeat (first | exact zah rfl | refine zaA rfl ?_ | refine zab rfl ?_)) (by repeat (first | exact za5 | exact zal rfl | refine zaB rfl ?_ | refine zac rfl ?_)) ?_
 clear F2
 rintro ⟨fu,g3,g4⟩ ⟨hl5,F3⟩
 dsimp only at hl5 F3 ⊢
 obtain _ | fu:=fu
 · rw [zcw] at F3;cases F3
 rw [zcw] at F3
 refine zb (zb (za ?_))
 refine s_mv ?_
 refine s_mv ?_
 refine s_lenA yU35 ?_
 refine s_lt ?_
 refine zf (zd ?_)
 refine zn F3 ?_ ?_<;>intro C6 F4
 refine awp_lenA 8 12017 (fun B7=>?_)
 refine zi (zd (zb (zl (zb ?_))))
 refine zP yMix (by kernel_rfl) ?_
 refine s_mv0 ?_
 refine s_mv ?_
 obtain ⟨v8,V8,F5⟩:=zc F4
 refine s_ixA Form.row V8 yE35 ?_
 refine s_lAN Form.row V8 (Form.row_eq _) yA37 yS37 ?_
 refine s_mv0 ?_
 refine s_mv ?_
 obtain ⟨v9,V9,F6⟩:=zc F5
 refine s_ixA rI V9 yE23 ?_
 refine s_lA1 rI V9 rfl yA3 ?_
 refine zE rfl ?_
 refine s_bld yZ88 yL88 ?_
 refine zaN yZ88 ?_
 refine zde yS88 ?_
 refine zai (by kernel_rfl) ?_
 refine zd (zb (zb (za ?_)))
 refine s_as ?_
 refine zf (zd (zl ?_))
 refine awp_ownB 11 5040 88 [.t (.sc (.int .i64 v8.kind)),.t (.sc (.str v8.name)),.t (.sc (.int .i64 v8.n)),.t (.sl (v8.scopes.map rI)),.t (.sl (v8.kids.map Form.row)),.t (.sc (.int .i64 (w64 (v9+1)))),.t (.sc (.int .i64 0)),.t (.sc (.str (⟨#[]⟩:ByteArray))),.t (.sc (.int .i64 0)),.nl,.nl,.ar 5040] yI88.choose_spec ?_
 refine zap [12,38,39,40,41,42,43,44,45,46,47,48,49,50,51,52,53,54,55] [11,5040] [53,54] [5040] (fun a:Nat × Int × (List Hit)=>a.1) (fun a:Nat × Int × (List Hit)=>[(12,.t (.sc (.int .i64 a.2.1)))]) (fun a:Nat × Int × (List Hit)=>[(11,.box [.t (.sc (.int .i64 v8.kind)),.t (.sc (.str v8.name)),.t (.sc (.int .i64 v8.n)),.t (.sl (v8.scopes.map rI)),.t (.sl (v8.kids.map Form.row)),.t (.sc (.int .i64 (w64 (v9+1)))),.t (.sc (.int .i64 0)),.t (.sc (.str (⟨#[]⟩:ByteArray))),.t (.sc (.int .i64 0)),.nl,.nl,.ar 5040]),(5040,.arr (a.2.2.map Hit.row) 88 true)]) (fun a:Nat × Int × (List Hit)=>a.1≤fu∧zcv a.1 x3 v1 v2 g3 g4 v8 v9 a.2.1 a.2.2=some r∧0≤a.2.1) (fu,0,([]:List Hit)) ⟨Nat.le_refl _,F6,by simp⟩ (by rfl) (by rfl) (fun _=>rfl) (zZ (by conv=>lhs;whnf) (by rfl) zbP) (zQ (by conv=>lhs;whnf) (by rfl) (zQ (by conv=>lhs;whnf) (by rfl) zbp)) (zcP hC rfl) (by repeat (first | exact zah rfl | refine zaA rfl ?_ | refine zab rfl ?_)) (by repeat (first | exact za5 | exact zal rfl | refine zaB rfl ?_ | refine zac rfl ?_)) ?_
 clear F6
 rintro ⟨fu,g10,g11⟩ ⟨hl12,F7,hn_g10⟩
 dsimp only at hl12 F7 hn_g10 ⊢
 obtain _ | fu:=fu
 · rw [zcv] at F7;cases F7
 rw [zcv] at F7
 refine zb (zb (za ?_))
 refine s_mv ?_
 refine s_mv ?_
 refine zB yU148 ?_
 refine s_lt ?_
 refine zf (zd ?_)
 refine zn F7 ?_ ?_<;>intro C13 F8
 refine zH 2 (fun B14=>?_)
 refine zi (zd (zb (zl ?_)))
 refine zP yMix (by kernel_rfl) ?_
 refine s_fa zgD ?_
 refine zq yA30 ?_
 refine s_mv ?_
 refine s_mv ?_
 obtain ⟨v15,V15,F9⟩:=zc F8
 refine zN (rL Hit.row) V15 rfl yE148 ?_
 refine zq yA30 ?_
 refine s_mv ?_
 obtain ⟨v16,V16,F10⟩:=zc F9
 refine zN Hit.row V16 (Hit.row_eq _) yE30 ?_
 refine zaI yA88 yS88 ?_
 refine s_bs Hit.row [v16] yP30 yR88 ?_
 obtain ⟨hk17,F11⟩:=zat F10
 refine zgC Hit.row (fun y=>Hit.row_len y) hk17 yP30 ?_
 refine s_fa zgD ?_
 refine zgT yS30 ?_
 refine zai (by kernel_rfl) ?_
 refine zY (zd (za ?_))
 refine s_mv ?_
 refine zE (zaF C13 B14 hn_g10) ?_
 refine s_as ?_
 refine zf ?_
 exact s_rn (fu,(g10+1),(g11++[v16])) ⟨by first | omega | (dsimp only;omega),F11,by first | omega | (dsimp only;omega)⟩ [(5040,54)]
 refine zA (zr (zp (zu (zd (za ?_)))))
 refine s_mv ?_
 refine z6 yA88 yS88 ?_
 refine s_bs Hit.row [(Hit.mk v8 (w64 (v9+1)) (Form.mk 0 (⟨#[]⟩:ByteArray) 0 ([]:List Int) ([]:List Form)) g11)] yP30 yR88 ?_
 obtain ⟨hk18,F9⟩:=zat F8
 refine zgC Hit.row (fun y=>Hit.row_len y) hk18 yP30 ?_
 refine s_as ?_
 refine zf (zY (zd (za ?_)))
 refine s_mv ?_
 refine zE rfl ?_
 refine s_as ?_
 refine zf ?_
 exact s_rn (fu,(g3++[(Hit.mk v8 (w64 (v9+1)) (Form.mk 0 (⟨#[]⟩:ByteArray) 0 ([]:List Int) ([]:List Form)) g11)]),(w64 (g4+1))) ⟨by first | omega | (dsimp only;omega),F9⟩ [(5020,59)]
 refine zA (zr (zp (zu (zd (zb (za ?_))))))
 refine s_mv ?_
 refine s_as ?_
 refine zf (zd (zh (zo ?_)))
 cases F4
 exact zk [] [5020] Tryz.results129
def ze2 (fuel:Nat):Prop:=∀ (x1:(List Bind)) (x2:(List Form)) (x3:(List Form)) (x4:(List Form)) (r:((List Hit) × Bool)),zeC fuel x1 x2 x3 x4=some r→AC Tryz.prog 90 [.t (.sl (x1.map Bind.row)),.t (.sl (x2.map Form.row)),.t (.sl (x3.map Form.row)),.t (.sl (x4.map Form.row))] noOb (.tp [.t (.sl (r.1.map Hit.row)),.t (.sc (.bool r.2))]) noOb
def zdB (fuel:Nat):Prop:=∀ (x1:(List Bind)) (x2:Form) (x3:(List Form)) (x4:Form) (r:((List Hit) × Bool)),zcr fuel x1 x2 x3 x4=some r→AC Tryz.prog 44 [.t (.sl (x1.map Bind.row)),.ag [.t (.sc (.int .i64 x2.kind)),.t (.sc (.str x2.name)),.t (.sc (.int .i64 x2.n)),.t (.sl (x2.scopes.map rI)),.t (.sl (x2.kids.map Form.row))],.t (.sl (x3.map Form.row)),.ag [.t (.sc (.int .i64 x4.kind)),.t (.sc (.str x4.name)),.t (.sc (.int .i64 x4.n)),.t (.sl (x4.scopes.map rI)),.t (.sl (x4.kids.map Form.row))]] noOb (.tp [.t (.sl (r.1.map Hit.row)),.t (.sc (.bool r.2))]) noOb
theorem m_spec_l4List_st (fu:Nat) (ih_m_spec_l4List:∀ k,k≤fu→ze2 k) (ih_m_spec_l4Match:∀ k,k≤fu→zdB k):ze2 (fu+1):=by
 intro x1 x2 x3 x4 r F0
 rw [zeC] at F0
 refine AC_i [.t (.sl (r.1.map Hit.row)),.t (.sc (.bool r.2))] Tryz.func90 rfl Tryz.ntmps90 ?_
 intro C hC
 refine zb (za ?_)
 refine s_as ?_
 refine s_as ?_
 refine zf (zd (zb (za ?_)))
 refine s_bs Hit.row ([]:List Hit) yP30 yR88 ?_
 refine s_as ?_
 refine zf (zd (zb (za ?_)))
 refine s_as ?_
 refine zf (zd ?_)
 refine zdr (α:=Nat × Int) [11,12,22,23,24,25,26,27,28,29,30,31,32,33,34,35] [] [] (fun a=>[(11,.t (.sc (.int .i64 a.2)))]) (fun a=>[]) (fun a=>a.1≤fu∧zc7 a.1 x1 x2 x3 x4 a.2=some r) ?_ ?_
 refine zb (za ?_)
 refine s_as ?_
 refine zf (zd (zl ?_))
 refine zaE (β:=Int × Int) [11,12,22,23,24,25,26,27,28,29,30,31,32,33,34,35] [] [] (fun a=>[(11,.t (.sc (.int .i64 a.2.1))),(12,.t (.sc (.int .i64 a.2.2)))]) (fun a=>[]) (fun a=>a.1≤fu∧zaZ a.1 x1 x2 x3 x4 a.2.1 a.2.2=some r) (fu,(-1),0) ⟨Nat.le_refl _,F0⟩ ?_
 clear F0
 rintro ⟨fu,g1,g2⟩ ⟨hl3,F1⟩
 dsimp only at hl3 F1 ⊢
 obtain _ | fu:=fu
 · rw [zaZ] at F1;cases F1
 rw [zaZ] at F1
 refine zb (zb (za ?_))
 refine s_mv ?_
 refine zE rfl ?_
 refine s_mv ?_
 refine zB yU35 ?_
 refine s_lt ?_
 refine zf (zd ?_)
 refine zn F1 ?_ ?_<;>intro C4 F2
 refine zi (zd (zb (zl (zb (za ?_)))))
 refine s_mv ?_
 refine s_mv ?_
 refine zE rfl ?_
 obtain ⟨v5,V5,F3⟩:=zc F2
 refine zN Form.row V5 (Form.row_eq _) yE35 ?_
 refine zaI yA37 yS37 ?_
 obtain ⟨v6,V6,F4⟩:=zc F3
 refine zy [] (zcG fu _ _ V6) ?_
 refine zf (zd ?_)
 refine zn F4 ?_ ?_<;>intro C7 F5
 refine za ?_
 refine s_mv ?_
 refine s_as ?_
 refine zf (zY (zd (za ?_)))
 refine s_mv ?_
 refine zE rfl ?_
 refine s_as ?_
 refine zf ?_
 exact s_rn (fu,g2,(w64 (g2+1))) ⟨by first | omega | (dsimp only;omega),F5⟩
 refine zi (zY (zd (za ?_)))
 refine s_mv ?_
 refine zE rfl ?_
 refine s_as ?_
 refine zf ?_
 exact s_rn (fu,g1,(w64 (g2+1))) ⟨by first | omega | (dsimp only;omega),F5⟩
 refine zA (zr (zp (zu ?_)))
 exact s_jn (fu,g1) ⟨by first | omega | (dsimp only;omega),F2⟩
 clear F0
 rintro ⟨fu,g8⟩ ⟨hl9,F1⟩
 dsimp only at hl9 F1 ⊢
 obtain _ | fu:=fu
 · rw [zc7] at F1;cases F1
 rw [zc7] at F1
 refine zdr (α:=Nat) [8,9,36,37,38,39,40,41,42,43,44,45,46,47,48,49,50,51,52,53,54,55,56,57] [] [] (fun a=>[]) (fun a=>[]) (fun a=>a≤fu∧zbW a x1 x2 x3 x4 g8 =some r) ?_ ?_
 refine zb (za ?_)
 refine s_mv ?_
 refine s_lt ?_
 refine s_mv ?_
 refine zx _ 38 F1 ?_ ?_<;>intro C10 F2
 refine s_mv ?_
 refine zB yU35 ?_
 refine s_mv ?_
 refine zB yU35 ?_
 refine s_ne ?_
 refine zC ?_
 refine s_mv ?_
 refine zx _ 45 F2 ?_ ?_<;>intro C11 F3
 iterate 10 refine r_no rfl ?_
 refine zC ?_
 refine zf (zd (zaa rfl (zb (za ?_))))
 refine s_mv ?_
 refine s_as ?_
 refine s_as ?_
 refine zf (zd (zh (zfX (zo ?_))))
 cases F3
 exact zk [] [21] Tryz.results90
 refine s_mv ?_
 refine s_ge ?_
 refine s_mv ?_
 refine zx _ 48 F3 ?_ ?_<;>intro C12 F4
 refine s_mv ?_
 refine zB yU35 ?_
 refine s_mv ?_
 refine zB yU35 ?_
 refine zfZ rfl ?_
 refine s_lt ?_
 refine zC ?_
 refine zD ?_
 refine zf (zd ?_)
 refine zn F4 ?_ ?_<;>intro C13 F5
 refine zb (za ?_)
 refine s_mv ?_
 refine s_as ?_
 refine s_as ?_
 refine zf (zd (zh (zfX (zo ?_))))
 cases F5
 exact zk [] [21] Tryz.results90
 refine zi ?_
 exact s_jn (fu) ⟨by first | omega | (dsimp only;omega),F5⟩
 iterate 6 refine r_no rfl ?_
 refine zD ?_
 refine zD ?_
 refine zf (zd (zcC rfl (zi ?_)))
 exact s_jn (fu) ⟨by first | omega | (dsimp only;omega),F4⟩
 iterate 5 refine r_no rfl ?_
 refine zD ?_
 refine s_mv ?_
 refine s_mv ?_
 refine s_ge ?_
 refine s_mv ?_
 refine zx _ 48 F2 ?_ ?_<;>intro C14 F3
 refine s_mv ?_
 refine zB yU35 ?_
 refine s_mv ?_
 refine zB yU35 ?_
 refine zfZ rfl ?_
 refine s_lt ?_
 refine zC ?_
 refine zD ?_
 refine zf (zd ?_)
 refine zn F3 ?_ ?_<;>intro C15 F4
 refine zb (za ?_)
 refine s_mv ?_
 refine s_as ?_
 refine s_as ?_
 refine zf (zd (zh (zfX (zo ?_))))
 cases F4
 exact zk [] [21] Tryz.results90
 refine zi ?_
 exact s_jn (fu) ⟨by first | omega | (dsimp only;omega),F4⟩
 iterate 6 refine r_no rfl ?_
 refine zD ?_
 refine zD ?_
 refine zf (zd (zcC rfl (zi ?_)))
 exact s_jn (fu) ⟨by first | omega | (dsimp only;omega),F3⟩
 clear F1
 rintro fu ⟨hl16,F2⟩
 obtain _ | fu:=fu
 · rw [zbW] at F2;cases F2
 rw [zbW] at F2
 refine zb (za ?_)
 refine s_as ?_
 refine zf (zd (zb (zb (za ?_))))
 refine s_as ?_
 refine zf (zd (zl ?_))
 refine zeY 10 21 5080 (by conv=>lhs;whnf) (by conv=>lhs;whnf) rfl ?_
 refine zap [8,9,10,13,14,15,16,17,18,19,20,58,59,60,61,62,63,64,65,66,67,68,69,70,71,72,73,74,75,76,77,78,79,80,81,82,83,84,85,86,87,88,89,90,91,92,93,94,95,96,97,98,99,100,101,102,103,104,105,106,107,108,109,110,111,112,113,114,115,116,117,118,119,120,121,122,123,124,125,126,127,128,129,130,131,132,133,134,135,136] [5080] [91,94,136,5120] [5080] (fun a:Nat × Int × (List Hit) × Int=>a.1) (fun a:Nat × Int × (List Hit) × Int=>[(10,.ar 5080),(13,.t (.sc (.int .i64 a.2.2.2))),(14,.t (.sc (.int .i64 a.2.1)))]) (fun a:Nat × Int × (List Hit) × Int=>[(5080,.arr (a.2.2.1.map Hit.row) 88 true)]) (fun a:Nat × Int × (List Hit) × Int=>a.1≤fu∧zbz a.1 x1 x2 x3 x4 g8 a.2.1 a.2.2.1 a.2.2.2=some r∧0≤a.2.1) (fu,0,([]:List Hit),0) ⟨Nat.le_refl _,F2,by simp⟩ (by rfl) (by rfl) (fun _=>rfl) (zZ (by conv=>lhs;whnf) (by rfl) (zZ (by conv=>lhs;whnf) (by rfl) (zZ (by conv=>lhs;whnf) (by rfl) zbP))) (zQ (by conv=>lhs;whnf) (by rfl) zbp) (zcP hC rfl) (by repeat (first | exact zah rfl | refine zaA rfl ?_ | refine zab rfl ?_)) (by repeat (first | exact za5 | exact zal rfl | refine zaB rfl ?_ | refine zac rfl ?_)) ?_
 clear F2
 rintro ⟨fu,g17,g18,g19⟩ ⟨hl20,F3,hn_g17⟩
 dsimp only at hl20 F3 hn_g17 ⊢
 obtain _ | fu:=fu
 · rw [zbz] at F3;cases F3
 rw [zbz] at F3
 refine zb (zb (za ?_))
 refine s_mv ?_
 refine s_mv ?_
 refine zB yU35 ?_
 refine s_lt ?_
 refine zf (zd ?_)
 refine zn F3 ?_ ?_<;>intro C21 F4
 refine zH 1 (fun B22=>?_)
 refine zi (zd (zb (zl (zb (zb (za ?_))))))
 refine s_mv ?_
 refine s_mv ?_
 obtain ⟨v23,V23,F5⟩:=zc F4
 refine zN Form.row V23 (Form.row_eq _) yE35 ?_
 refine zaI yA37 yS37 ?_
 obtain ⟨v24,V24,F6⟩:=zc F5
 refine zy [] (zcG fu _ _ V24) ?_
 refine zf (zd ?_)
 refine zn F6 ?_ ?_<;>intro C25 F7
 refine zA (zr (zu (zd (za ?_))))
 refine s_mv ?_
 refine zE (zaF C21 B22 hn_g17) ?_
 refine s_as ?_
 refine zf ?_
 exact s_rn (fu,(g17+1),g18,g19) ⟨by first | omega | (dsimp only;omega),F7,by first | omega | (dsimp only;omega)⟩
 refine zi (zd (zb (zb (za ?_))))
 refine s_mv ?_
 refine s_mv ?_
 refine s_ne ?_
 refine zf (zd ?_)
 refine zn F7 ?_ ?_<;>intro C26 F8
 refine zb ?_
 refine zP yMix (by kernel_rfl) ?_
 iterate 3 refine s_mv ?_
 obtain ⟨v27,V27,F9⟩:=zc F8
 refine zN Form.row V27 (Form.row_eq _) yE35 ?_
 refine zaI yA37 yS37 ?_
 iterate 3 refine s_mv ?_
 obtain ⟨v28,V28,F10⟩:=zc F9
 refine zN Form.row V28 (Form.row_eq _) yE35 ?_
 refine zaI yA37 yS37 ?_
 obtain ⟨v29,V29,F11⟩:=zc F10
 refine zy [] (ih_m_spec_l4Match fu (by omega) _ _ _ _ _ V29) ?_
 refine s_mv ?_
 refine zdv ?_
 refine zdv ?_
 refine s_as ?_
 refine s_as ?_
 refine zai (by kernel_rfl) ?_
 refine zd (zb (zb (za ?_)))
 refine s_mv ?_
 refine zbh ?_
 refine zf (zd ?_)
 refine zn F11 ?_ ?_<;>intro C30 F12
 refine zb (za ?_)
 refine s_mv ?_
 refine s_as ?_
 refine s_as ?_
 refine zf (zd (zh (zg (zg (zj (zg (zv (zj (zg (zo ?_))))))))))
 cases F12
 exact zk [] [5080] Tryz.results90
 refine zi (zd (zb (za ?_)))
 refine s_mv ?_
 refine s_mv ?_
 obtain ⟨hk31,F13⟩:=zat F12
 refine zgC Hit.row (fun y=>Hit.row_len y) hk31 yP30 ?_
 refine s_as ?_
 refine zf (zd (zb (za ?_)))
 refine s_mv ?_
 refine zE rfl ?_
 refine s_as ?_
 refine zf (zd (zA (zr (zu (zd (za ?_))))))
 refine s_mv ?_
 refine zE (zaF C21 B22 hn_g17) ?_
 refine s_as ?_
 refine zf ?_
 exact s_rn (fu,(g17+1),(g18++v29.1),(w64 (g19+1))) ⟨by first | omega | (dsimp only;omega),F13,by first | omega | (dsimp only;omega)⟩ [(5080,91)]
 refine zi (zd (zb (za ?_)))
 refine s_bs (rL Hit.row) ([]:List (List Hit)) yP148 yR30 ?_
 refine s_as ?_
 refine zf (zd ?_)
 refine zdr (α:=Nat × Int × (List (List Hit))) [8,9,13,17,18,19,20,95,96,97,98,99,100,101,102,103,104,105,106,107,108,109,110,111,112,113,114,115,116,117,118,119,120,121,122,123,124,125,126,127] [94,5120] [] (fun a=>[(13,.t (.sc (.int .i64 a.2.1))),(17,.ar 5120)]) (fun a=>[(94,.dead),(5120,.arr (a.2.2.map (rL Hit.row)) 30 true)]) (fun a=>a.1≤fu∧zc6 a.1 x1 x2 x3 x4 g8 g17 g18 a.2.1 a.2.2=some r) ?_ ?_
 refine zb (za ?_)
 refine s_mv ?_
 refine zB yU35 ?_
 refine s_mv ?_
 refine zB yU35 ?_
 refine zfZ rfl ?_
 refine zfZ rfl ?_
 refine s_as ?_
 refine zf (zd (zl ?_))
 refine zeY 17 94 5120 (by conv=>lhs;whnf) (by conv=>lhs;whnf) rfl ?_
 refine zap [8,9,13,17,18,19,20,101,102,103,104,105,106,107,108,109,110,111,112,113,114,115,116,117,118,119,120,121,122,123,124,125,126,127] [5120] [124,125] [5120] (fun a:Nat × Int × (List (List Hit)) × Int=>a.1) (fun a:Nat × Int × (List (List Hit)) × Int=>[(13,.t (.sc (.int .i64 a.2.1))),(17,.ar 5120),(18,.t (.sc (.int .i64 a.2.2.2)))]) (fun a:Nat × Int × (List (List Hit)) × Int=>[(5120,.arr (a.2.2.1.map (rL Hit.row)) 30 true)]) (fun a:Nat × Int × (List (List Hit)) × Int=>a.1≤fu∧zcc a.1 x1 x2 x3 x4 g8 g17 g18 a.2.1 a.2.2.1 a.2.2.2=some r) (fu,g19,([]:List (List Hit)),(w64 ((x4.length:Int)-(w64 ((x2.length:Int)-2))))) ⟨Nat.le_refl _,F8⟩ (by rfl) (by rfl) (fun _=>rfl) (zZ (by conv=>lhs;whnf) (by rfl) (zZ (by conv=>lhs;whnf) (by rfl) (zZ (by conv=>lhs;whnf) (by rfl) zbP))) (zQ (by conv=>lhs;whnf) (by rfl) zbp) (zcP hC rfl) (by repeat (first | exact zah rfl | refine zaA rfl ?_ | refine zab rfl ?_)) (by repeat (first | exact za5 | exact zal rfl | refine zaB rfl ?_ | refine zac rfl ?_)) ?_
 clear F8
 rintro ⟨fu,g32,g33,g34⟩ ⟨hl35,F9⟩
 dsimp only at hl35 F9 ⊢
 obtain _ | fu:=fu
 · rw [zcc] at F9;cases F9
 rw [zcc] at F9
 refine zb (zb (za ?_))
 refine s_mv ?_
 refine s_gt ?_
 refine zf (zd ?_)
 refine zn F9 ?_ ?_<;>intro C36 F10
 refine zi (zd (zb (zl (zb ?_))))
 refine zP yMix (by kernel_rfl) ?_
 iterate 3 refine s_mv ?_
 obtain ⟨v37,V37,F11⟩:=zc F10
 refine zN Form.row V37 (Form.row_eq _) yE35 ?_
 refine zaI yA37 yS37 ?_
 iterate 3 refine s_mv ?_
 obtain ⟨v38,V38,F12⟩:=zc F11
 refine zN Form.row V38 (Form.row_eq _) yE35 ?_
 refine zaI yA37 yS37 ?_
 obtain ⟨v39,V39,F13⟩:=zc F12
 refine zy [] (ih_m_spec_l4Match fu (by omega) _ _ _ _ _ V39) ?_
 refine s_mv ?_
 refine zdv ?_
 refine zdv ?_
 refine s_as ?_
 refine s_as ?_
 refine zai (by kernel_rfl) ?_
 refine zd (zb (zb (za ?_)))
 refine s_mv ?_
 refine zbh ?_
 refine zf (zd ?_)
 refine zn F13 ?_ ?_<;>intro C40 F14
 refine zb (za ?_)
 refine s_mv ?_
 refine s_as ?_
 refine s_as ?_
 refine zf (zd (zh (zg (zj (zg (zv (zj (zfX (zj (zg (zv (zj (zg (zo ?_))))))))))))))
 cases F14
 exact zk [] [5080] Tryz.results90
 refine zi (zd (zb (za ?_)))
 refine s_mv ?_
 refine s_mv ?_
 refine s_bs (rL Hit.row) [v39.1] yP148 yR30 ?_
 obtain ⟨hk41,F15⟩:=zat F14
 refine zgC (rL Hit.row) (fun _=>rfl) hk41 yP148 ?_
 refine s_as ?_
 refine zf (zd (za ?_))
 refine s_mv ?_
 refine zE rfl ?_
 refine s_as ?_
 refine zf (zY (zd (za ?_)))
 refine s_mv ?_
 refine zfZ rfl ?_
 refine s_as ?_
 refine zf ?_
 exact s_rn (fu,(w64 (g32+1)),(g33++[v39.1]),(w64 (g34-1))) ⟨by first | omega | (dsimp only;omega),F15⟩ [(5120,125)]
 refine zA (zr (zp (zu ?_)))
 exact s_jn (fu,g32,g33) ⟨by first | omega | (dsimp only;omega),F10⟩
 clear F8
 rintro ⟨fu,g42,g43⟩ ⟨hl44,F9⟩
 dsimp only at hl44 F9 ⊢
 obtain _ | fu:=fu
 · rw [zc6] at F9;cases F9
 rw [zc6] at F9
 refine za ?_
 iterate 3 refine s_mv ?_
 obtain ⟨v45,V45,F10⟩:=zc F9
 refine zN Form.row V45 (Form.row_eq _) yE35 ?_
 refine zaI yA37 yS37 ?_
 refine s_mv ?_
 refine s_mv ?_
 obtain ⟨v46,V46,F11⟩:=zc F10
 refine zy [5120] (m_spec_l4Row_ok fu _ _ _ _ V46) ?_
 obtain ⟨hk47,F12⟩:=zat F11
 refine zgC Hit.row (fun y=>Hit.row_len y) hk47 yP30 ?_
 refine s_as ?_
 refine zf (zY (zd (za ?_)))
 refine s_mv ?_
 refine zE (zaF C21 B22 hn_g17) ?_
 refine s_as ?_
 refine zf ?_
 exact s_rn (fu,(g17+1),(g18++v46),g42) ⟨by first | omega | (dsimp only;omega),F12,by first | omega | (dsimp only;omega)⟩ [(5080,136)]
 refine zA (zr (zp (zu (zd (zb (za ?_))))))
 refine s_mv ?_
 refine s_as ?_
 refine s_as ?_
 refine zf (zd (zh (zo ?_)))
 cases F4
 exact zk [] [5080] Tryz.results90
theorem m_spec_l4Match_st (fu:Nat) (ih_m_spec_l4List:∀ k,k≤fu→ze2 k) (ih_m_spec_l4Match:∀ k,k≤fu→zdB k):zdB (fu+1):=by
 intro x1 x2 x3 x4 r F0
 rw [zcr] at F0
 refine AC_i [.t (.sl (r.1.map Hit.row)),.t (.sc (.bool r.2))] Tryz.func44 rfl Tryz.ntmps44 ?_
 intro C hC
 refine zb (za ?_)
 refine zbo ?_
 refine zbo ?_
 refine s_as ?_
 refine s_as ?_
 refine zf (zd (zb (za ?_)))
 refine s_bs Hit.row ([]:List Hit) yP30 yR88 ?_
 refine s_as ?_
 refine zf (zd (zb (zb (za ?_))))
 refine s_fa zcD ?_
 refine zq yA3 ?_
 refine s_eq ?_
 refine zf (zd ?_)
 refine zn F0 ?_ ?_<;>intro C1 F1
 refine zb (zb (za ?_))
 refine s_fa zbC ?_
 refine zq yA9 ?_
 refine zgj ?_
 refine zf (zd ?_)
 refine zn F1 ?_ ?_<;>intro C2 F2
 refine zb (za ?_)
 refine s_mv ?_
 refine s_as ?_
 refine s_as ?_
 refine zf (zd (zh (zg (zg (zo ?_)))))
 cases F2
 exact zk [] [11] Tryz.results44
 refine zi (zd (zb (zb (za ?_))))
 refine s_mv ?_
 refine z6 yA37 yS37 ?_
 obtain ⟨v3,V3,F3⟩:=zc F2
 refine zy [] (zfV fu _ _ _ V3) ?_
 refine zf (zd ?_)
 refine zn F3 ?_ ?_<;>intro C4 F4
 refine zdr (α:=Nat × Bool) [8,9,22,23,24,25,26,27,28,29,30,31] [] [] (fun a=>[(8,.ar 11),(9,.t (.sc (.bool a.2)))]) (fun a=>[]) (fun a=>a.1≤fu∧zck a.1  a.2=some r) ?_ ?_
 refine za ?_
 refine s_mv ?_
 refine s_fa zcD ?_
 refine zq yA3 ?_
 refine s_eq ?_
 refine s_mv ?_
 refine zx _ 26 F4 ?_ ?_<;>intro C5 F5
 refine s_mv ?_
 refine z6 yA37 yS37 ?_
 refine z6 yA37 yS37 ?_
 obtain ⟨v6,V6,F6⟩:=zc F5
 refine zy [] (m_spec_l3Same_ok fu _ _ _ _ V6) ?_
 refine zC ?_
 refine s_as ?_
 refine s_as ?_
 refine zf ?_
 exact s_jn (fu,v6) ⟨by first | omega | (dsimp only;omega),F6⟩
 iterate 4 refine r_no rfl ?_
 refine zD ?_
 refine s_as ?_
 refine s_as ?_
 refine zf ?_
 exact s_jn (fu,false) ⟨by first | omega | (dsimp only;omega),F5⟩
 clear F4
 rintro ⟨fu,g7⟩ ⟨hl8,F5⟩
 dsimp only at hl8 F5 ⊢
 obtain _ | fu:=fu
 · rw [zck] at F5;cases F5
 rw [zck] at F5
 refine zh (zg (zg (zo ?_)))
 cases F5
 exact zk [] [11] Tryz.results44
 refine zi (zd (zb (za ?_)))
 refine s_mv ?_
 refine z6 yA37 yS37 ?_
 refine z6 yA37 yS37 ?_
 refine s_bld yZ88 yL88 ?_
 refine s_bs Hit.row [(Hit.mk x2 0 x4 ([]:List Hit))] yP30 yR88 ?_
 obtain ⟨hk9,F5⟩:=zat F4
 refine zgC Hit.row (fun y=>Hit.row_len y) hk9 yP30 ?_
 refine s_as ?_
 refine s_as ?_
 refine zf (zd (zh (zg (zo ?_))))
 cases F5
 exact zk [] [37] Tryz.results44
 refine zi (zd (zb (zb (za ?_))))
 refine s_fa zcD ?_
 refine zq yA3 ?_
 refine s_eq ?_
 refine zf (zd ?_)
 refine zn F1 ?_ ?_<;>intro C10 F2
 refine zb (za ?_)
 refine s_mv ?_
 refine z6 yA37 yS37 ?_
 refine z6 yA37 yS37 ?_
 obtain ⟨v11,V11,F3⟩:=zc F2
 refine zy [] (zgM fu _ _ _ V11) ?_
 refine s_as ?_
 refine s_as ?_
 refine zf (zd (zh (zg (zo ?_))))
 cases F3
 exact zk [] [11] Tryz.results44
 refine zi (zd (zb (zb (za ?_))))
 refine s_fa zcD ?_
 refine zq yA3 ?_
 refine s_ne ?_
 refine zf (zd ?_)
 refine zn F2 ?_ ?_<;>intro C12 F3
 refine zb (za ?_)
 refine s_mv ?_
 refine s_as ?_
 refine s_as ?_
 refine zf (zd (zh (zg (zo ?_))))
 cases F3
 exact zk [] [11] Tryz.results44
 refine zi (zd (zb (za ?_)))
 refine s_mv ?_
 refine s_fa zJ ?_
 refine zq yA35 ?_
 refine s_mv ?_
 refine s_fa zJ ?_
 refine zq yA35 ?_
 obtain ⟨v13,V13,F4⟩:=zc F3
 refine zy [] (ih_m_spec_l4List fu (by omega) _ _ _ _ _ V13) ?_
 refine zdv ?_
 refine zdv ?_
 refine s_as ?_
 refine s_as ?_
 refine zf (zd (zh (zo ?_)))
 cases F4
 exact zk [] [] Tryz.results44
theorem m_spec_l4List_all (fuel:Nat):ze2 fuel∧zdB fuel:=by
 induction fuel using Nat.strongRecOn with
 | _ N ih =>
   cases N with
   | zero=>exact ⟨(by intro x1 x2 x3 x4 r h;rw [zeC] at h;cases h),(by intro x1 x2 x3 x4 r h;rw [zcr] at h;cases h)⟩
   | succ fu=>exact ⟨m_spec_l4List_st fu (fun k hk=>(ih k (by omega)).1) (fun k hk=>(ih k (by omega)).2),m_spec_l4Match_st fu (fun k hk=>(ih k (by omega)).1) (fun k hk=>(ih k (by omega)).2)⟩
theorem m_spec_l4Match_ok (fuel:Nat):zdB fuel:=(m_spec_l4List_all fuel).2
def ze3 (fuel:Nat):Prop:=∀ (x1:Form) (r:Form),zdf fuel x1=some r→AC Tryz.prog 62 [.ag [.t (.sc (.int .i64 x1.kind)),.t (.sc (.str x1.name)),.t (.sc (.int .i64 x1.n)),.t (.sl (x1.scopes.map rI)),.t (.sl (x1.kids.map Form.row))]] (objs []) (.ag [.t (.sc (.int .i64 r.kind)),.t (.sc (.str r.name)),.t (.sc (.int .i64 r.n)),.ar 9203,.ar 9204]) (objs [(9203,.arr (r.scopes.map rI) 3 true),(9204,.arr (r.kids.map Form.row) 37 true)])
theorem m_spec_l1Copy_st (fu:Nat) (ih_m_spec_l1Copy:∀ k,k≤fu→ze3 k):ze3 (fu+1):=by
 intro x1 r F0
 rw [zdf] at F0
 refine AC_i [.ag [.t (.sc (.int .i64 r.kind)),.t (.sc (.str r.name)),.t (.sc (.int .i64 r.n)),.ar 9203,.ar 9204]] Tryz.func62 rfl Tryz.ntmps62 ?_
 intro C hC
 refine zb (za ?_)
 refine zbo ?_
 refine zaN yZ37 ?_
 refine zf (zd (zb ?_))
 refine zP yMix (by kernel_rfl) ?_
 refine s_fa zcD ?_
 refine zq yA3 ?_
 refine s_fa zbC ?_
 refine zq yA9 ?_
 refine s_fa zeg ?_
 refine zq yA3 ?_
 refine s_bs rI ([]:List Int) yP23 yR3 ?_
 refine s_fa zdR ?_
 refine zq yA23 ?_
 obtain ⟨hk1,F1⟩:=zat F0
 refine zgC rI (fun _=>rfl) hk1 yP23 ?_
 refine s_bld yZ37 yL37 ?_
 refine zaN yZ37 ?_
 refine zde yS37 ?_
 refine zai (by kernel_rfl) ?_
 refine zd (zb (zb (za ?_)))
 refine s_as ?_
 refine zf (zd (zl ?_))
 refine awp_ownB 3 5020 37 [.t (.sc (.int .i64 x1.kind)),.t (.sc (.str x1.name)),.t (.sc (.int .i64 x1.n)),.ar 14,.ar 5020] yI37.choose_spec ?_
 refine zap [4,16,17,18,19,20,21,22,23,24,25,26,27,28,29,30,31,32,33] [3,5020] [31,32,2030,12030] [5020] (fun a:Nat × Int × (List Form)=>a.1) (fun a:Nat × Int × (List Form)=>[(4,.t (.sc (.int .i64 a.2.1)))]) (fun a:Nat × Int × (List Form)=>[(3,.box [.t (.sc (.int .i64 x1.kind)),.t (.sc (.str x1.name)),.t (.sc (.int .i64 x1.n)),.ar 14,.ar 5020]),(5020,.arr (a.2.2.map Form.row) 37 true)]) (fun a:Nat × Int × (List Form)=>a.1≤fu∧zcf a.1 x1 a.2.1 a.2.2=some r∧0≤a.2.1) (fu,0,([]:List Form)) ⟨Nat.le_refl _,F1,by simp⟩ (by rfl) (by rfl) (fun _=>rfl) (zZ (by conv=>lhs;whnf) (by rfl) zbP) (zQ (by conv=>lhs;whnf) (by rfl) (zQ (by conv=>lhs;whnf) (by rfl) zbp)) (zcP hC rfl) (by repeat (first | exact zah rfl | refine zaA rfl ?_ | refine zab rfl ?_)) (by repeat (first | exact za5 | exact zal rfl | refine zaB rfl ?_ | refine zac rfl ?_)) ?_
 clear F1
 rintro ⟨fu,g2,g3⟩ ⟨hl4,F2,hn_g2⟩
 dsimp only at hl4 F2 hn_g2 ⊢
 obtain _ | fu:=fu
 · rw [zcf] at F2;cases F2
 rw [zcf] at F2
 refine zb (zb (za ?_))
 refine s_mv ?_
 refine s_fa zJ ?_
 refine zq yA35 ?_
 refine zB yU35 ?_
 refine s_lt ?_
 refine zf (zd ?_)
 refine zn F2 ?_ ?_<;>intro C5 F3
 refine zH 18 (fun B6=>?_)
 refine zi (zd (zb (zl ?_)))
 refine zP yMix (by kernel_rfl) ?_
 refine s_fa zJ ?_
 refine zq yA35 ?_
 refine s_fa zJ ?_
 refine zq yA35 ?_
 refine s_mv ?_
 obtain ⟨v7,V7,F4⟩:=zc F3
 refine zN Form.row V7 (Form.row_eq _) yE35 ?_
 refine zaI yA37 yS37 ?_
 obtain ⟨v8,V8,F5⟩:=zc F4
 refine zT [(9203,2030),(9204,12030)] [] _ _ (ih_m_spec_l1Copy fu (by omega) _ _ V8) ?_
 refine s_bs Form.row [v8] yP35 yR37 ?_
 obtain ⟨hk9,F6⟩:=zat F5
 refine zgC Form.row (fun y=>Form.row_len y) hk9 yP35 ?_
 refine s_fa zJ ?_
 refine zgT yS35 ?_
 refine zai (by kernel_rfl) ?_
 refine zY (zd (za ?_))
 refine s_mv ?_
 refine zE (zaF C5 B6 hn_g2) ?_
 refine s_as ?_
 refine zf ?_
 exact s_rn (fu,(g2+1),(g3++[v8])) ⟨by first | omega | (dsimp only;omega),F6,by first | omega | (dsimp only;omega)⟩ [(5020,32)]
 refine zA (zr (zp (zu (zd (zb (za ?_))))))
 refine z6 yA37 yS37 ?_
 refine zde yS37 ?_
 refine zf (zd ?_)
 refine zez 2 14 9203 [.t (.sc (.int .i64 x1.kind)),.t (.sc (.str x1.name)),.t (.sc (.int .i64 x1.n)),.ar 9203,.ar 5020] ?_
 refine zez 2 5020 9204 [.t (.sc (.int .i64 x1.kind)),.t (.sc (.str x1.name)),.t (.sc (.int .i64 x1.n)),.ar 9203,.ar 9204] ?_
 refine zh (zo ?_)
 cases F3
 exact zgl _ [] (by rw [Tryz.results62];exact (res_agg (by conv=>lhs;whnf) (by conv=>lhs;whnf) yA37 yS37 rfl zfp))
theorem m_spec_l1Copy_all (fuel:Nat):ze3 fuel:=by
 induction fuel using Nat.strongRecOn with
 | _ N ih =>
   cases N with
   | zero=>exact (by intro x1 r h;rw [zdf] at h;cases h)
   | succ fu=>exact m_spec_l1Copy_st fu (fun k hk=>(ih k (by omega)))
theorem m_spec_l1Copy_ok (fuel:Nat):ze3 fuel:=(m_spec_l1Copy_all fuel)
def zdV (fuel:Nat):Prop:=∀ (x1:Hit) (r:Hit),zbX fuel x1=some r→AC Tryz.prog 91 [.ag [.t (.sc (.int .i64 x1.name.kind)),.t (.sc (.str x1.name.name)),.t (.sc (.int .i64 x1.name.n)),.t (.sl (x1.name.scopes.map rI)),.t (.sl (x1.name.kids.map Form.row)),.t (.sc (.int .i64 x1.depth)),.t (.sc (.int .i64 x1.one.kind)),.t (.sc (.str x1.one.name)),.t (.sc (.int .i64 x1.one.n)),.t (.sl (x1.one.scopes.map rI)),.t (.sl (x1.one.kids.map Form.row)),.t (.sl (x1.many.map Hit.row))]] noOb (.ag [.t (.sc (.int .i64 r.name.kind)),.t (.sc (.str r.name.name)),.t (.sc (.int .i64 r.name.n)),.t (.sl (r.name.scopes.map rI)),.t (.sl (r.name.kids.map Form.row)),.t (.sc (.int .i64 r.depth)),.t (.sc (.int .i64 r.one.kind)),.t (.sc (.str r.one.name)),.t (.sc (.int .i64 r.one.n)),.t (.sl (r.one.scopes.map rI)),.t (.sl (r.one.kids.map Form.row)),.t (.sl (r.many.map Hit.row))]) noOb
theorem m_spec_l4CopyHit_st (fu:Nat) (ih_m_spec_l4CopyHit:∀ k,k≤fu→zdV k):zdV (fu+1):=by
 intro x1 r F0
 rw [zbX] at F0
 refine AC_i [.ag [.t (.sc (.int .i64 r.name.kind)),.t (.sc (.str r.name.name)),.t (.sc (.int .i64 r.name.n)),.t (.sl (r.name.scopes.map rI)),.t (.sl (r.name.kids.map Form.row)),.t (.sc (.int .i64 r.depth)),.t (.sc (.int .i64 r.one.kind)),.t (.sc (.str r.one.name)),.t (.sc (.int .i64 r.one.n)),.t (.sl (r.one.scopes.map rI)),.t (.sl (r.one.kids.map Form.row)),.t (.sl (r.many.map Hit.row))]] Tryz.func91 rfl Tryz.ntmps91 ?_
 intro C hC
 refine zb (za ?_)
 refine zbo ?_
 refine zaN yZ88 ?_
 refine zf (zd (zb ?_))
 refine zP yMix (by kernel_rfl) ?_
 refine s_fa zgW ?_
 refine zaI yA37 yS37 ?_
 obtain ⟨v1,V1,F1⟩:=zc F0
 refine zT [(9203,2007),(9204,12007)] [] _ _ (m_spec_l1Copy_ok fu _ _ V1) ?_
 refine s_fa yF88_1 ?_
 refine zq yA3 ?_
 refine s_fa zgV ?_
 refine zaI yA37 yS37 ?_
 obtain ⟨v2,V2,F2⟩:=zc F1
 refine zT [(9203,2012),(9204,12012)] [] _ _ (m_spec_l1Copy_ok fu _ _ V2) ?_
 refine s_bld yZ88 yL88 ?_
 refine zaN yZ88 ?_
 refine zde yS88 ?_
 refine zai (by kernel_rfl) ?_
 refine zd (zb (zb (za ?_)))
 refine s_as ?_
 refine zf (zd (zl ?_))
 refine awp_ownB 3 5020 88 [.t (.sc (.int .i64 v1.kind)),.t (.sc (.str v1.name)),.t (.sc (.int .i64 v1.n)),.ar 2007,.ar 12007,.t (.sc (.int .i64 x1.depth)),.t (.sc (.int .i64 v2.kind)),.t (.sc (.str v2.name)),.t (.sc (.int .i64 v2.n)),.ar 2012,.ar 12012,.ar 5020] yI88.choose_spec ?_
 refine zap [4,14,15,16,17,18,19,20,21,22,23,24,25,26,27,28,29,30,31] [3,5020] [29,30] [5020] (fun a:Nat × Int × (List Hit)=>a.1) (fun a:Nat × Int × (List Hit)=>[(4,.t (.sc (.int .i64 a.2.1)))]) (fun a:Nat × Int × (List Hit)=>[(3,.box [.t (.sc (.int .i64 v1.kind)),.t (.sc (.str v1.name)),.t (.sc (.int .i64 v1.n)),.ar 2007,.ar 12007,.t (.sc (.int .i64 x1.depth)),.t (.sc (.int .i64 v2.kind)),.t (.sc (.str v2.name)),.t (.sc (.int .i64 v2.n)),.ar 2012,.ar 12012,.ar 5020]),(5020,.arr (a.2.2.map Hit.row) 88 true)]) (fun a:Nat × Int × (List Hit)=>a.1≤fu∧zbY a.1 x1 v1 v2 a.2.1 a.2.2=some r∧0≤a.2.1) (fu,0,([]:List Hit)) ⟨Nat.le_refl _,F2,by simp⟩ (by rfl) (by rfl) (fun _=>rfl) (zZ (by conv=>lhs;whnf) (by rfl) zbP) (zQ (by conv=>lhs;whnf) (by rfl) (zQ (by conv=>lhs;whnf) (by rfl) zbp)) (zcP hC rfl) (by repeat (first | exact zah rfl | refine zaA rfl ?_ | refine zab rfl ?_)) (by repeat (first | exact za5 | exact zal rfl | refine zaB rfl ?_ | refine zac rfl ?_)) ?_
 clear F2
 rintro ⟨fu,g3,g4⟩ ⟨hl5,F3,hn_g3⟩
 dsimp only at hl5 F3 hn_g3 ⊢
 obtain _ | fu:=fu
 · rw [zbY] at F3;cases F3
 rw [zbY] at F3
 refine zb (zb (za ?_))
 refine s_mv ?_
 refine s_fa zgD ?_
 refine zq yA30 ?_
 refine zB yU30 ?_
 refine s_lt ?_
 refine zf (zd ?_)
 refine zn F3 ?_ ?_<;>intro C6 F4
 refine zH 16 (fun B7=>?_)
 refine zi (zd (zb (zl ?_)))
 refine zP yMix (by kernel_rfl) ?_
 refine s_fa zgD ?_
 refine zq yA30 ?_
 refine s_fa zgD ?_
 refine zq yA30 ?_
 refine s_mv ?_
 obtain ⟨v8,V8,F5⟩:=zc F4
 refine zN Hit.row V8 (Hit.row_eq _) yE30 ?_
 refine zaI yA88 yS88 ?_
 obtain ⟨v9,V9,F6⟩:=zc F5
 refine zy [] (ih_m_spec_l4CopyHit fu (by omega) _ _ V9) ?_
 refine s_bs Hit.row [v9] yP30 yR88 ?_
 obtain ⟨hk10,F7⟩:=zat F6
 refine zgC Hit.row (fun y=>Hit.row_len y) hk10 yP30 ?_
 refine s_fa zgD ?_
 refine zgT yS30 ?_
 refine zai (by kernel_rfl) ?_
 refine zY (zd (za ?_))
 refine s_mv ?_
 refine zE (zaF C6 B7 hn_g3) ?_
 refine s_as ?_
 refine zf ?_
 exact s_rn (fu,(g3+1),(g4++[v9])) ⟨by first | omega | (dsimp only;omega),F7,by first | omega | (dsimp only;omega)⟩ [(5020,30)]
 refine zA (zr (zp (zu (zd (zb (za ?_))))))
 refine z6 yA88 yS88 ?_
 refine zde yS88 ?_
 refine zf (zd (zh (zo ?_)))
 cases F4
 exact zgl [] [2007,12007,2012,12012,5020] (by rw [Tryz.results91];exact (res_agg (by conv=>lhs;whnf) (by conv=>lhs;whnf) yA88 yS88 rfl zfp))
end Go.Abs
