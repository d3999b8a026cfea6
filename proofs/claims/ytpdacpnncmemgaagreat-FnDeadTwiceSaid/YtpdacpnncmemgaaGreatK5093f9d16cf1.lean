/- A part of the proof: what the functions that the law calls answer, as pure values. -/
import Derived.Test.YtpdacpnncmemgaaGreatK44963eedd702
import Derived.Test.YtpdacpnncmemgaaGreatKf1a494c6481c
import Derived.Test.YtpdacpnncmemgaaGreatK8277c4f6323a
import Derived.Test.YtpdacpnncmemgaaGreatKe229a176054d
import Derived.Test.YtpdacpnncmemgaaGreatK5aa89541ad3a
import Derived.Test.YtpdacpnncmemgaaGreatK5e6712fa12dd
import Derived.Test.YtpdacpnncmemgaaGreatKfaf2dbb53499
set_option linter.unusedSimpArgs false
set_option linter.unusedVariables false
set_option maxRecDepth 100000
set_option maxHeartbeats 4000000
namespace Go.Abs
open Go.Proofs
def zcE (fuel:Nat):Prop:=∀ (x1:Form) (o1:Bool) (o2:Hit) (r:Bool),zaW fuel x1 o1 o2=some r→AC Tryz.prog 91 [.ag [.t (.sc (.int .i64 x1.kind)),.t (.sc (.str x1.name)),.t (.sc (.int .i64 x1.n)),.t (.sl (x1.scopes.map rI)),.t (.sl (x1.kids.map Form.row))],.fn 92 [.rf 9000 0,.rf 9001 0]] (objs [(9000,.box [.t (.sc (.bool o1))]),(9001,.box [.t (.sc (.int .i64 o2.name.kind)),.t (.sc (.str o2.name.name)),.t (.sc (.int .i64 o2.name.n)),.t (.sl (o2.name.scopes.map rI)),.t (.sl (o2.name.kids.map Form.row)),.t (.sc (.int .i64 o2.depth)),.t (.sc (.int .i64 o2.one.kind)),.t (.sc (.str o2.one.name)),.t (.sc (.int .i64 o2.one.n)),.t (.sl (o2.one.scopes.map rI)),.t (.sl (o2.one.kids.map Form.row)),.t (.sl (o2.many.map Hit.row))])]) (.tp []) (objs [(9000,.box [.t (.sc (.bool r))]),(9001,.box [.t (.sc (.int .i64 o2.name.kind)),.t (.sc (.str o2.name.name)),.t (.sc (.int .i64 o2.name.n)),.t (.sl (o2.name.scopes.map rI)),.t (.sl (o2.name.kids.map Form.row)),.t (.sc (.int .i64 o2.depth)),.t (.sc (.int .i64 o2.one.kind)),.t (.sc (.str o2.one.name)),.t (.sc (.int .i64 o2.one.n)),.t (.sl (o2.one.scopes.map rI)),.t (.sl (o2.one.kids.map Form.row)),.t (.sl (o2.many.map Hit.row))])])
theorem zhz (fu:Nat) (ih_m_impl_eachForm_fill_2:∀ k,k≤fu→zcE k):zcE (fu+1):=by
 intro x1 o1 o2 r F0
 rw [zaW] at F0
 refine AC_i [] Tryz.func91 rfl Tryz.ntmps91 ?_
 intro C hC
 refine zb (za ?_)
 refine za7 ?_
 refine zf (zd (zb (za ?_)))
 refine s_mv ?_
 refine zI yA32 yS32 ?_
 obtain ⟨v1,V1,F1⟩:=zc F0
 refine zL [(9000,9000),(9001,9001)] [] _ _ (m_impl_fill_2_ok fu _ _ _ _ V1) ?_
 refine zf (zd (zb (za ?_)))
 refine s_fa zD ?_
 refine zu yA24 ?_
 refine zF yU24 ?_
 refine s_mv ?_
 refine zf (zd (zl ?_))
 refine zaX (β:=Int × Bool) [5,12,13,14,15,16,17,18,19] [9000] [5] (fun a=>[(12,.t (.sc (.int .i64 a.2.1)))]) (fun a=>[(9000,.box [.t (.sc (.bool a.2.2))])]) (fun a=>a.1≤fu∧zaB a.1 x1 o2 a.2.1 a.2.2=some r∧0≤a.2.1) (fu,0,v1) ⟨Nat.le_refl _,F1,by simp⟩ ?_
 clear F1
 rintro ⟨fu,g2,g3⟩ ⟨hl4,F2,hn_g2⟩
 dsimp only at hl4 F2 hn_g2 ⊢
 obtain _ | fu:=fu
 · rw [zaB] at F2;cases F2
 rw [zaB] at F2
 refine zb (za ?_)
 refine s_lt ?_
 refine zf (zd (zb ?_))
 refine zn F2 ?_ ?_<;>intro C5 F3
 refine zN 10 (fun B6=>?_)
 refine zi (zd (zb (zl (zb (za ?_)))))
 obtain ⟨v7,V7,F4⟩:=zc F3
 refine zR Form.row V7 (Form.row_eq _) yE24 ?_
 refine zak yA32 yS32 ?_
 refine z4 yZ32 ?_
 refine zal yS32 ?_
 refine zf (zd (za ?_))
 refine zI yA32 yS32 ?_
 refine s_mv ?_
 obtain ⟨v8,V8,F5⟩:=zc F4
 refine zL [(9000,9000),(9001,9001)] [] _ _ (ih_m_impl_eachForm_fill_2 fu (by omega) _ _ _ _ V8) ?_
 refine zf (zU (zd (za ?_)))
 refine zH (zaq C5 B6 hn_g2) ?_
 refine s_mv ?_
 refine zf ?_
 exact s_rn (fu,(g2+1),v8) ⟨by first | omega | (dsimp only;omega),F5,by first | omega | (dsimp only;omega)⟩
 refine zA (zq (zp (zr (zgN ?_))))
 cases F3
 exact zk _ [] Tryz.results91
theorem zho (fuel:Nat):zcE fuel:=by
 induction fuel using Nat.strongRecOn with
 | _ N ih =>
   cases N with
   | zero=>exact (by intro x1 o1 o2 r h;rw [zaW] at h;cases h)
   | succ fu=>exact zhz fu (fun k hk=>(ih k (by omega)))
theorem zhA (fuel:Nat):zcE fuel:=(zho fuel)
def m_slices_Clone_Hit_AC (fuel:Nat):Prop:=∀ (x1:(List Hit)) (r:(List Hit)),zeW fuel x1=some r→AC Tryz.prog 93 [.t (.sl (x1.map Hit.row))] (objs []) (.ar 9200) (objs [(9200,.arr (r.map Hit.row) 55 true)])
theorem m_slices_Clone_Hit_ok (fuel:Nat):m_slices_Clone_Hit_AC fuel:=by
 intro x1 r F0
 unfold zeW at F0
 refine AC_i [.ar 9200] Tryz.func93 rfl Tryz.ntmps93 ?_
 intro C hC
 refine awp_nil 0 (fun hz=>?_) ?_
 replace hz:=List.map_eq_nil_iff.mp hz;subst hz;obtain ⟨_,F1⟩:=zat F0
 refine zb (za ?_)
 refine s_as ?_
 refine zf (zd (zb (zb (za ?_))))
 refine s_mv ?_
 refine s_nil yU42 ?_
 refine zf (zd (zK rfl ?_))
 refine zgP 0 ?_
 refine zgP 3 ?_
 refine zb (za ?_)
 refine s_as ?_
 refine zf (zd ?_)
 refine awp_own 2 9200 55 yI55.choose_spec ?_
 refine zh (zg (zm ?_))
 cases F1
 exact zk _ [] Tryz.results93
 refine zb (za ?_)
 refine s_as ?_
 refine zf (zd (zb (zb (za ?_))))
 refine s_mv ?_
 refine s_nil yU42 ?_
 refine zf (zd (zaP rfl ?_))
 refine zgP 0 ?_
 refine zgP 3 ?_
 refine zi (zd (zb (za ?_)))
 refine s_bs Hit.row ([]:List Hit) yP42 yR55 ?_
 refine s_mv ?_
 obtain ⟨hk1,F1⟩:=zat F0
 refine zfw Hit.row (fun y=>Hit.row_len y) hk1 yP42 ?_
 refine s_as ?_
 refine zf (zd ?_)
 refine zdf 2 7 9200 (by conv=>lhs;whnf) (by conv=>lhs;whnf) rfl ?_
 refine zh (zm ?_)
 cases F1
 exact zk _ [] Tryz.results93
def zfJ (fuel:Nat):Prop:=∀ (x1:Form) (x2:(List Hit)) (r:(Form × Bool)),zdQ fuel x1 x2=some r→AC Tryz.prog 38 [.ag [.t (.sc (.int .i64 x1.kind)),.t (.sc (.str x1.name)),.t (.sc (.int .i64 x1.n)),.t (.sl (x1.scopes.map rI)),.t (.sl (x1.kids.map Form.row))],.t (.sl (x2.map Hit.row))] noOb (.tp [.ag [.t (.sc (.int .i64 r.1.kind)),.t (.sc (.str r.1.name)),.t (.sc (.int .i64 r.1.n)),.t (.sl (r.1.scopes.map rI)),.t (.sl (r.1.kids.map Form.row))],.t (.sc (.bool r.2))]) noOb
def zfX (fuel:Nat):Prop:=∀ (x1:Form) (x2:(List Hit)) (o1:Int) (o2:Form) (r:(Bool × Int × Form)),zdD fuel x1 x2 o1 o2=some r→AC Tryz.prog 89 [.ag [.t (.sc (.int .i64 x1.kind)),.t (.sc (.str x1.name)),.t (.sc (.int .i64 x1.n)),.t (.sl (x1.scopes.map rI)),.t (.sl (x1.kids.map Form.row))],.t (.sl (x2.map Hit.row)),.rf 9000 0,.rf 9001 0] (objs [(9000,.box [.t (.sc (.int .i64 o1))]),(9001,.box [.t (.sc (.int .i64 o2.kind)),.t (.sc (.str o2.name)),.t (.sc (.int .i64 o2.n)),.t (.sl (o2.scopes.map rI)),.ar 9444]),(9444,.arr (o2.kids.map Form.row) 32 true)]) (.t (.sc (.bool r.1))) (objs [(9000,.box [.t (.sc (.int .i64 r.2.1))]),(9001,.box [.t (.sc (.int .i64 r.2.2.kind)),.t (.sc (.str r.2.2.name)),.t (.sc (.int .i64 r.2.2.n)),.t (.sl (r.2.2.scopes.map rI)),.ar 10444]),(9444,.dead),(10444,.arr (r.2.2.kids.map Form.row) 32 true)])
theorem m_impl_fill_st (fu:Nat) (ih_m_impl_fill:∀ k,k≤fu→zfJ k) (ih_m_impl_fill_1:∀ k,k≤fu→zfX k):zfJ (fu+1):=by
 intro x1 x2 r F0
 rw [zdQ] at F0
 refine AC_i [.ag [.t (.sc (.int .i64 r.1.kind)),.t (.sc (.str r.1.name)),.t (.sc (.int .i64 r.1.n)),.t (.sl (r.1.scopes.map rI)),.t (.sl (r.1.kids.map Form.row))],.t (.sc (.bool r.2))] Tryz.func38 rfl Tryz.ntmps38 ?_
 intro C hC
 refine zb (za ?_)
 refine za7 ?_
 refine z4 yZ32 ?_
 refine s_as ?_
 refine zf (zd (zb (zb (za ?_))))
 refine s_fa zcN ?_
 refine zu yA3 ?_
 refine s_eq ?_
 refine zf (zd ?_)
 refine zn F0 ?_ ?_<;>intro C1 F1
 refine zb (zb (za ?_))
 refine s_mv ?_
 refine zI yA32 yS32 ?_
 obtain ⟨v2,V2,F2⟩:=zc F1
 refine zx [] (m_impl_hitAt_ok fu _ _ _ V2) ?_
 refine s_as ?_
 refine zf (zd (zb (za ?_)))
 refine s_mv ?_
 refine s_ge ?_
 refine zf (zd ?_)
 refine zn F2 ?_ ?_<;>intro C3 F3
 refine zb (za ?_)
 refine s_mv ?_
 refine s_mv ?_
 obtain ⟨v4,V4,F4⟩:=zc F3
 refine zR Hit.row V4 (Hit.row_eq _) yE42 ?_
 refine s_fa yF55_2 ?_
 refine zak yA32 yS32 ?_
 obtain ⟨v5,V5,F5⟩:=zc F4
 refine zx [] (zcP fu _ _ V5) ?_
 refine zal yS32 ?_
 refine s_as ?_
 refine zf (zd (zh (zg (zg (zm ?_)))))
 cases F5
 exact zag [] [] (by rw [Tryz.results38];exact (zaE (by conv=>lhs;whnf) (by conv=>lhs;whnf) yA32 yS32 rfl (zau (by conv=>lhs;whnf) zar)))
 refine zi (zd (zb (za ?_)))
 refine zI yA32 yS32 ?_
 obtain ⟨v6,V6,F4⟩:=zc F3
 refine zx [] (zcP fu _ _ V6) ?_
 refine zal yS32 ?_
 refine s_as ?_
 refine zf (zd (zh (zg (zm ?_))))
 cases F4
 exact zag [] [] (by rw [Tryz.results38];exact (zaE (by conv=>lhs;whnf) (by conv=>lhs;whnf) yA32 yS32 rfl (zau (by conv=>lhs;whnf) zar)))
 refine zi (zd (zb (za ?_)))
 refine s_fa zcN ?_
 refine zu yA3 ?_
 refine s_fa zgV ?_
 refine zu yA3 ?_
 refine zgQ yZ32 yL32 ?_
 refine z4 yZ32 ?_
 refine z4 yZ3 ?_
 refine zal yS32 ?_
 refine zal yS3 ?_
 refine zf (zd ?_)
 refine awp_ownB 7 8144 32 [.t (.sc (.int .i64 x1.kind)),.t (.sc (.str (⟨#[]⟩:ByteArray))),.t (.sc (.int .i64 x1.n)),.nl,.ar 8144] yI32.choose_spec ?_
 refine zb (za ?_)
 refine s_fn ?_
 refine s_as ?_
 refine zf (zd (zb (zb (za ?_))))
 refine s_fa zD ?_
 refine zu yA24 ?_
 refine zF yU24 ?_
 refine s_mv ?_
 refine zf (zd (zl ?_))
 refine zeP 7 8144 5020 [.t (.sc (.int .i64 x1.kind)),.t (.sc (.str (⟨#[]⟩:ByteArray))),.t (.sc (.int .i64 x1.n)),.nl,.ar 5020] ?_
 refine awp_nlB 7 3 [.t (.sc (.int .i64 x1.kind)),.t (.sc (.str (⟨#[]⟩:ByteArray))),.t (.sc (.int .i64 x1.n)),.t (.sl (([]:List Int).map rI)),.ar 5020] (by conv=>lhs;whnf) rfl rfl ?_
 refine zaz [5,10,11,12,13,14,15,16,17,18,20,46,47,48,49,50,51,52,53,54,55,56,57,58,59,60,61,62,63,64,65,66,67,68,69,70,71,72,73,74,75,76,77,78,79,80,81,82,83,84,85,86,87,88,89,90,91,92,93,94,95,96,97,98,99,100,101,102,103,104,105,106,107,108,109,110,111,112,113,114,115,116,117,118,119,120,121,122,123,124,125,126,127,128,129,130,131,132,133,134,135,136,137,138,139,140,141,142] [7,8,5020] [11,75,5080,5140,32072] [5020] (fun a:Nat × Int × Int × ByteArray × Int × (List Int) × (List Form) × Int=>a.1) (fun a:Nat × Int × Int × ByteArray × Int × (List Int) × (List Form) × Int=>[(46,.t (.sc (.int .i64 a.2.1)))]) (fun a:Nat × Int × Int × ByteArray × Int × (List Int) × (List Form) × Int=>[(7,.box [.t (.sc (.int .i64 a.2.2.1)),.t (.sc (.str a.2.2.2.1)),.t (.sc (.int .i64 a.2.2.2.2.1)),.t (.sl (a.2.2.2.2.2.1.map rI)),.ar 5020]),(8,.box [.t (.sc (.int .i64 a.2.2.2.2.2.2.2))]),(5020,.arr (a.2.2.2.2.2.2.1.map Form.row) 32 true)]) (fun a:Nat × Int × Int × ByteArray × Int × (List Int) × (List Form) × Int=>a.1≤fu∧zbW a.1 x1 x2 a.2.1 a.2.2.1 a.2.2.2.1 a.2.2.2.2.1 a.2.2.2.2.2.1 a.2.2.2.2.2.2.1 a.2.2.2.2.2.2.2=some r) (fu,0,x1.kind,(⟨#[]⟩:ByteArray),x1.n,([]:List Int),([]:List Form),0) ⟨Nat.le_refl _,F1⟩ (by rfl) (by rfl) (fun _=>rfl) (zQ (by conv=>lhs;whnf) (by rfl) zbA) (zV (by conv=>lhs;whnf) (by rfl) (zV (by conv=>lhs;whnf) (by rfl) (zV (by conv=>lhs;whnf) (by rfl) zbl))) (zcq hC rfl) (by repeat (first | exact zai rfl | refine zax rfl ?_ | refine z8 rfl ?_)) (by repeat (first | exact zaU | exact zan rfl | refine zay rfl ?_ | refine z9 rfl ?_)) ?_
 clear F1
 rintro ⟨fu,g7,g8,g9,g10,g11,g12,g13⟩ ⟨hl14,F2⟩
 dsimp only at hl14 F2 ⊢
 obtain _ | fu:=fu
 · rw [zbW] at F2;cases F2
 rw [zbW] at F2
 refine zb (za ?_)
 refine s_lt ?_
 refine zf (zd (zb ?_))
 refine zn F2 ?_ ?_<;>intro C15 F3
 refine zN 44 (fun B16=>?_)
 refine zi (zd (zb (zl (zb (za ?_)))))
 refine s_mv ?_
 obtain ⟨v17,V17,F4⟩:=zc F3
 refine zR Form.row V17 (Form.row_eq _) yE24 ?_
 refine zak yA32 yS32 ?_
 refine z4 yZ32 ?_
 refine s_as ?_
 refine zal yS32 ?_
 refine zf (zd (zb (zb (za ?_))))
 refine zI yA32 yS32 ?_
 obtain ⟨v18,V18,F5⟩:=zc F4
 refine zx [] (zaM fu _ _ _ V18) ?_
 refine zf (zd ?_)
 refine zn F5 ?_ ?_<;>intro C19 F6
 refine zA (zq (zr (zd (za ?_))))
 refine zH (zaq C15 B16 (zdT V17).1) ?_
 refine s_mv ?_
 refine zf ?_
 exact s_rn (fu,(g7+1),g8,g9,g10,g11,g12,g13) ⟨by first | omega | (dsimp only;omega),F6⟩
 refine zi (zd (zb ?_))
 refine zca (α:=Nat × Bool) [53,54,55,56,57,58,59,60,61,62,63,64,65,66,67,68] [] [] (fun a=>[(68,.t (.sc (.bool a.2)))]) (fun a=>[]) (fun a=>a.1≤fu∧zbX a.1 x1 x2 g7 g8 g9 g10 g11 g12 g13 v17 a.2=some r) ?_ ?_
 refine za ?_
 refine s_mv ?_
 refine zH (zaq C15 B16 (zdT V17).1) ?_
 refine s_fa zD ?_
 refine zu yA24 ?_
 refine zF yU24 ?_
 refine s_eq ?_
 refine s_mv ?_
 refine zo _ 59 F6 ?_ ?_<;>intro C20 F7
 iterate 8 refine r_no rfl ?_
 refine zz ?_
 refine zf ?_
 exact s_jn (fu,true) ⟨by first | omega | (dsimp only;omega),F7⟩
 refine s_fa zD ?_
 refine zu yA24 ?_
 refine s_mv ?_
 refine zH (zaq C15 B16 (zdT V17).1) ?_
 obtain ⟨v21,V21,F8⟩:=zc F7
 refine zR Form.row V21 (Form.row_eq _) yE24 ?_
 refine zak yA32 yS32 ?_
 obtain ⟨v22,V22,F9⟩:=zc F8
 refine zx [] (zaM fu _ _ _ V22) ?_
 refine za3 ?_
 refine zy ?_
 refine zf ?_
 exact s_jn (fu,(!v22)) ⟨by first | omega | (dsimp only;omega),F9⟩
 clear F6
 rintro ⟨fu,g23⟩ ⟨hl24,F7⟩
 dsimp only at hl24 F7 ⊢
 obtain _ | fu:=fu
 · rw [zbX] at F7;cases F7
 rw [zbX] at F7
 refine zn F7 ?_ ?_<;>intro C25 F8
 refine zb (zb (za ?_))
 refine s_mv ?_
 refine zI yA32 yS32 ?_
 refine s_mv ?_
 obtain ⟨v26,V26,F9⟩:=zc F8
 refine zL [(9000,8),(9001,7),(9444,5020),(10444,32072)] [] _ _ (ih_m_impl_fill_1 fu (by omega) _ _ _ _ _ V26) ?_
 refine za3 ?_
 refine zf (zd ?_)
 refine zn F9 ?_ ?_<;>intro C27 F10
 refine zb (za ?_)
 refine zgQ yZ32 yL32 ?_
 refine zal yS32 ?_
 refine s_as ?_
 refine zf (zd (zh (zg (zg (zj (zg (zw (zj (zg (zm ?_))))))))))
 cases F10
 exact zag [] [] (by rw [Tryz.results38];exact (zaE (by conv=>lhs;whnf) (by conv=>lhs;whnf) yA32 yS32 rfl (zau (by conv=>lhs;whnf) zar)))
 refine zi (zd (zA (zq (zr (zd (za ?_))))))
 refine zH (zaq C15 B16 (zdT V17).1) ?_
 refine s_mv ?_
 refine zf ?_
 exact s_rn (fu,(g7+1),v26.2.2.kind,v26.2.2.name,v26.2.2.n,v26.2.2.scopes,v26.2.2.kids,v26.2.1) ⟨by first | omega | (dsimp only;omega),F10⟩ [(5020,32072)]
 refine zi (zd (zb (za ?_)))
 refine s_bs rI ([]:List Int) yP27 yR3 ?_
 refine s_as ?_
 refine s_as ?_
 refine zf (zd ?_)
 refine zca (α:=Nat × Int × (List Int)) [5,12,13,14,15,16,76,77,78,79,80,81,82,83,84,85,86,87,88,89,90,91,92,93,94,95,96,97,98,99,100,101,102,103,104,105,106,107,108,109,110] [75,5080] [] (fun a=>[(12,.ar 5080),(13,.t (.sc (.int .i64 a.2.1)))]) (fun a=>[(75,.dead),(5080,.arr (a.2.2.map rI) 3 true)]) (fun a=>a.1≤fu∧zeL a.1 x1 x2 g7 g8 g9 g10 g11 g12 g13 v17 a.2.1 a.2.2=some r) ?_ ?_
 refine zb (za ?_)
 refine s_mv ?_
 refine zF yU42 ?_
 refine s_mv ?_
 refine zf (zd (zl ?_))
 refine zdf 12 75 5080 (by conv=>lhs;whnf) (by conv=>lhs;whnf) rfl ?_
 refine zaz [5,12,13,14,15,16,78,79,80,81,82,83,84,85,86,87,88,89,90,91,92,93,94,95,96,97,98,99,100,101,102,103,104,105,106,107,108,109,110] [5080] [15,16,95,96] [5080] (fun a:Nat × Int × (List Int) × Int=>a.1) (fun a:Nat × Int × (List Int) × Int=>[(12,.ar 5080),(13,.t (.sc (.int .i64 a.2.2.2))),(78,.t (.sc (.int .i64 a.2.1)))]) (fun a:Nat × Int × (List Int) × Int=>[(5080,.arr (a.2.2.1.map rI) 3 true)]) (fun a:Nat × Int × (List Int) × Int=>a.1≤fu∧zcb a.1 x1 x2 g7 g8 g9 g10 g11 g12 g13 v17 a.2.1 a.2.2.1 a.2.2.2=some r∧0≤a.2.1) (fu,0,([]:List Int),(-1)) ⟨Nat.le_refl _,F8,by simp⟩ (by rfl) (by rfl) (fun _=>rfl) (zQ (by conv=>lhs;whnf) (by rfl) (zQ (by conv=>lhs;whnf) (by rfl) (zQ (by conv=>lhs;whnf) (by rfl) zbA))) (zV (by conv=>lhs;whnf) (by rfl) zbl) (zcq hC rfl) (by repeat (first | exact zai rfl | refine zax rfl ?_ | refine z8 rfl ?_)) (by repeat (first | exact zaU | exact zan rfl | refine zay rfl ?_ | refine z9 rfl ?_)) ?_
 clear F8
 rintro ⟨fu,g28,g29,g30⟩ ⟨hl31,F9,hn_g28⟩
 dsimp only at hl31 F9 hn_g28 ⊢
 obtain _ | fu:=fu
 · rw [zcb] at F9;cases F9
 rw [zcb] at F9
 refine zb (za ?_)
 refine s_lt ?_
 refine zf (zd (zb ?_))
 refine zn F9 ?_ ?_<;>intro C32 F10
 refine zN 1 (fun B33=>?_)
 refine zi (zd (zb (zl (zb (za ?_)))))
 refine s_mv ?_
 obtain ⟨v34,V34,F11⟩:=zc F10
 refine zR Hit.row V34 (Hit.row_eq _) yE42 ?_
 refine zak yA55 yS55 ?_
 refine z4 yZ55 ?_
 refine s_as ?_
 refine zal yS55 ?_
 refine zf (zd (zb (za ?_)))
 refine z4 yZ4 ?_
 refine zal yS4 ?_
 refine zf (zd (zb (za ?_)))
 refine zI yA32 yS32 ?_
 refine s_fn ?_
 obtain ⟨v35,V35,F12⟩:=zc F11
 refine zL [(9000,16),(9001,15)] [] _ _ (zhA fu _ _ _ _ V35) ?_
 refine zf (zd (zb ?_))
 refine zca (α:=Nat × Bool) [86,87,88,89,90,91,92] [] [] (fun a=>[(92,.t (.sc (.bool a.2)))]) (fun a=>[]) (fun a=>a.1≤fu∧zde a.1 x1 x2 g7 g8 g9 g10 g11 g12 g13 v17 g28 g29 g30 v34 a.2=some r) ?_ ?_
 refine za ?_
 refine zu yA4 ?_
 refine za3 ?_
 refine s_mv ?_
 refine zo _ 88 F12 ?_ ?_<;>intro C36 F13
 iterate 3 refine r_no rfl ?_
 refine zz ?_
 refine zf ?_
 exact s_jn (fu,true) ⟨by first | omega | (dsimp only;omega),F13⟩
 refine s_fa yF55_1 ?_
 refine zu yA3 ?_
 refine s_eq ?_
 refine zy ?_
 refine zf ?_
 exact s_jn (fu,(decide (v34.depth=0))) ⟨by first | omega | (dsimp only;omega),F13⟩
 clear F12
 rintro ⟨fu,g37⟩ ⟨hl38,F13⟩
 dsimp only at hl38 F13 ⊢
 obtain _ | fu:=fu
 · rw [zde] at F13;cases F13
 rw [zde] at F13
 refine zn F13 ?_ ?_<;>intro C39 F14
 refine zA (zq (zr (zd (za ?_))))
 refine zH (zaq C32 B33 hn_g28) ?_
 refine s_mv ?_
 refine zf ?_
 exact s_rn (fu,(g28+1),g29,g30) ⟨by first | omega | (dsimp only;omega),F14,by first | omega | (dsimp only;omega)⟩
 refine zi (zd (zb (za ?_)))
 refine s_mv ?_
 refine s_mv ?_
 refine s_bs rI [g28] yP27 yR3 ?_
 obtain ⟨hk40,F15⟩:=zat F14
 refine zfw rI (fun _=>rfl) hk40 yP27 ?_
 refine s_as ?_
 refine zf (zd (zb ?_))
 refine zca (α:=Nat × Bool) [97,98,99,100,101,102,103,104,105] [] [] (fun a=>[(105,.t (.sc (.bool a.2)))]) (fun a=>[]) (fun a=>a.1≤fu∧zdd a.1 x1 x2 g7 g8 g9 g10 g11 g12 g13 v17 g28 g29 v34 a.2=some r) ?_ ?_
 refine za ?_
 refine s_mv ?_
 refine s_ge ?_
 refine s_mv ?_
 refine zo _ 99 F15 ?_ ?_<;>intro C41 F16
 refine s_mv ?_
 refine s_fa yF55_3 ?_
 refine zu yA42 ?_
 refine zF yU42 ?_
 refine s_ne ?_
 refine zz ?_
 refine zf ?_
 exact s_jn (fu,(decide (g30≠(v34.many.length:Int)))) ⟨by first | omega | (dsimp only;omega),F16⟩
 iterate 5 refine r_no rfl ?_
 refine zy ?_
 refine zf ?_
 exact s_jn (fu,false) ⟨by first | omega | (dsimp only;omega),F16⟩
 clear F15
 rintro ⟨fu,g42⟩ ⟨hl43,F16⟩
 dsimp only at hl43 F16 ⊢
 obtain _ | fu:=fu
 · rw [zdd] at F16;cases F16
 rw [zdd] at F16
 refine zn F16 ?_ ?_<;>intro C44 F17
 refine zb (za ?_)
 refine zgQ yZ32 yL32 ?_
 refine zal yS32 ?_
 refine s_as ?_
 refine zf (zd (zh (zg (zj (zg (zw (zj (zgp (zj (zg (zw (zj (zg (zm ?_))))))))))))))
 cases F17
 exact zag [] [] (by rw [Tryz.results38];exact (zaE (by conv=>lhs;whnf) (by conv=>lhs;whnf) yA32 yS32 rfl (zau (by conv=>lhs;whnf) zar)))
 refine zi (zd (za ?_))
 refine s_fa yF55_3 ?_
 refine zu yA42 ?_
 refine zF yU42 ?_
 refine s_as ?_
 refine zf (zU (zd (za ?_)))
 refine zH (zaq C32 B33 hn_g28) ?_
 refine s_mv ?_
 refine zf ?_
 exact s_rn (fu,(g28+1),(g29++[g28]),(v34.many.length:Int)) ⟨by first | omega | (dsimp only;omega),F17,by first | omega | (dsimp only;omega)⟩ [(5080,96)]
 refine zA (zq (zp (zr ?_)))
 exact s_jn (fu,g30,g29) ⟨by first | omega | (dsimp only;omega),F10⟩
 clear F8
 rintro ⟨fu,g45,g46⟩ ⟨hl47,F9⟩
 dsimp only at hl47 F9 ⊢
 obtain _ | fu:=fu
 · rw [zeL] at F9;cases F9
 rw [zeL] at F9
 refine zb (za ?_)
 refine s_as ?_
 refine zf (zd (zl ?_))
 refine zeP 7 5020 5140 [.t (.sc (.int .i64 g8)),.t (.sc (.str g9)),.t (.sc (.int .i64 g10)),.t (.sl (g11.map rI)),.ar 5140] ?_
 refine zaz [5,17,18,20,111,112,113,114,115,116,117,118,119,120,121,122,123,124,125,126,127,128,129,130,131,132,133,134,135,136,137,138,139,140,141] [7,8,5140] [2117,32139] [5140] (fun a:Nat × Int × Int × ByteArray × Int × (List Int) × (List Form) × Int=>a.1) (fun a:Nat × Int × Int × ByteArray × Int × (List Int) × (List Form) × Int=>[(17,.t (.sc (.int .i64 a.2.1)))]) (fun a:Nat × Int × Int × ByteArray × Int × (List Int) × (List Form) × Int=>[(7,.box [.t (.sc (.int .i64 a.2.2.1)),.t (.sc (.str a.2.2.2.1)),.t (.sc (.int .i64 a.2.2.2.2.1)),.t (.sl (a.2.2.2.2.2.1.map rI)),.ar 5140]),(8,.box [.t (.sc (.int .i64 a.2.2.2.2.2.2.2))]),(5140,.arr (a.2.2.2.2.2.2.1.map Form.row) 32 true)]) (fun a:Nat × Int × Int × ByteArray × Int × (List Int) × (List Form) × Int=>a.1≤fu∧zdc a.1 x1 x2 g7 v17 g45 g46 a.2.1 a.2.2.1 a.2.2.2.1 a.2.2.2.2.1 a.2.2.2.2.2.1 a.2.2.2.2.2.2.1 a.2.2.2.2.2.2.2=some r) (fu,0,g8,g9,g10,g11,g12,g13) ⟨Nat.le_refl _,F9⟩ (by rfl) (by rfl) (fun _=>rfl) (zQ (by conv=>lhs;whnf) (by rfl) zbA) (zV (by conv=>lhs;whnf) (by rfl) (zV (by conv=>lhs;whnf) (by rfl) (zV (by conv=>lhs;whnf) (by rfl) zbl))) (zcq hC rfl) (by repeat (first | exact zai rfl | refine zax rfl ?_ | refine z8 rfl ?_)) (by repeat (first | exact zaU | exact zan rfl | refine zay rfl ?_ | refine z9 rfl ?_)) ?_
 clear F9
 rintro ⟨fu,g48,g49,g50,g51,g52,g53,g54⟩ ⟨hl55,F10⟩
 dsimp only at hl55 F10 ⊢
 obtain _ | fu:=fu
 · rw [zdc] at F10;cases F10
 rw [zdc] at F10
 refine zb (zb (za ?_))
 refine s_mv ?_
 refine s_mv ?_
 refine s_lt ?_
 refine zf (zd ?_)
 refine zn F10 ?_ ?_<;>intro C56 F11
 refine zi (zd (zb (zl (zb (za ?_)))))
 refine s_mv ?_
 obtain ⟨v57,V57,F12⟩:=zc F11
 refine zL [(9200,2117)] [] _ _ (m_slices_Clone_Hit_ok fu _ _ V57) ?_
 refine s_as ?_
 refine zf (zd ?_)
 refine zca (α:=Nat × (List Hit)) [20,118,119,120,121,122,123,124,125,126,127,128,129,130,131,132,133,134,135] [2117] [] (fun a=>[]) (fun a=>[(2117,.arr (a.2.map Hit.row) 55 true)]) (fun a=>a.1≤fu∧zeK a.1 x1 x2 g7 v17 g45 g46 g48 g49 g50 g51 g52 g53 g54 a.2=some r) ?_ ?_
 refine zb (za ?_)
 refine s_mv ?_
 refine zgv yU27 ?_
 refine s_mv ?_
 refine zf (zd (zl ?_))
 refine zaX (β:=Int × (List Hit)) [20,120,121,122,123,124,125,126,127,128,129,130,131,132,133,134,135] [2117] [] (fun a=>[(120,.t (.sc (.int .i64 a.2.1)))]) (fun a=>[(2117,.arr (a.2.2.map Hit.row) 55 true)]) (fun a=>a.1≤fu∧zcD a.1 x1 x2 g7 v17 g45 g46 g48 g49 g50 g51 g52 g53 g54 a.2.1 a.2.2=some r∧0≤a.2.1) (fu,0,v57) ⟨Nat.le_refl _,F12,by simp⟩ ?_
 clear F12
 rintro ⟨fu,g58,g59⟩ ⟨hl60,F13,hn_g58⟩
 dsimp only at hl60 F13 hn_g58 ⊢
 obtain _ | fu:=fu
 · rw [zcD] at F13;cases F13
 rw [zcD] at F13
 refine zb (za ?_)
 refine s_lt ?_
 refine zf (zd (zb ?_))
 refine zn F13 ?_ ?_<;>intro C61 F14
 refine zic 12 5080 (fun B62=>?_)
 refine zi (zd (zb (zl (zb (za ?_)))))
 obtain ⟨v63,V63,F15⟩:=zc F14
 refine zhC rI V63 yE27 ?_
 refine s_lA1 rI V63 rfl yA3 ?_
 refine s_as ?_
 refine zf (zd (za ?_))
 iterate 4 refine s_mv ?_
 obtain ⟨v64,V64,F16⟩:=zc F15
 refine zR Hit.row V64 (Hit.row_eq _) yE42 ?_
 refine s_fa yF55_3 ?_
 refine zu yA42 ?_
 refine s_mv ?_
 obtain ⟨v65,V65,F17⟩:=zc F16
 refine zR Hit.row V65 (Hit.row_eq _) yE42 ?_
 refine zak yA55 yS55 ?_
 obtain ⟨v66,V66,F18⟩:=zc F17
 refine zhC Hit.row V66 yE42 ?_
 refine s_stA Hit.row v65 V66 (Hit.row_eq _) (Hit.row_eq _) yS55 yS55 ?_
 refine zf (zU (zd (za ?_)))
 refine zH (zaq C61 B62 hn_g58) ?_
 refine s_mv ?_
 refine zf ?_
 exact s_rn (fu,(g58+1),(g59.set v63.toNat v65)) ⟨by first | omega | (dsimp only;omega),F18,by first | omega | (dsimp only;omega)⟩
 refine zA (zq (zp (zr ?_)))
 exact s_jn (fu,g59) ⟨by first | omega | (dsimp only;omega),F14⟩
 clear F12
 rintro ⟨fu,g67⟩ ⟨hl68,F13⟩
 dsimp only at hl68 F13 ⊢
 obtain _ | fu:=fu
 · rw [zeK] at F13;cases F13
 rw [zeK] at F13
 refine zb (za ?_)
 refine s_mv ?_
 refine zI yA32 yS32 ?_
 refine s_mv ?_
 obtain ⟨v69,V69,F14⟩:=zc F13
 refine zL [(9000,8),(9001,7),(9444,5140),(10444,32139)] [2117] _ _ (ih_m_impl_fill_1 fu (by omega) _ _ _ _ _ V69) ?_
 refine za3 ?_
 refine zf (zd ?_)
 refine zn F14 ?_ ?_<;>intro C70 F15
 refine zb (za ?_)
 refine zgQ yZ32 yL32 ?_
 refine zal yS32 ?_
 refine s_as ?_
 refine zf (zd (zh (zj (zg (zw (zj (zj (zg (zw (zj (zg (zm ?_))))))))))))
 cases F15
 exact zag [] [] (by rw [Tryz.results38];exact (zaE (by conv=>lhs;whnf) (by conv=>lhs;whnf) yA32 yS32 rfl (zau (by conv=>lhs;whnf) zar)))
 refine zi (zU (zd (za ?_)))
 refine s_mv ?_
 refine zH rfl ?_
 refine s_as ?_
 refine zf ?_
 exact s_rn (fu,(w64 (g48+1)),v69.2.2.kind,v69.2.2.name,v69.2.2.n,v69.2.2.scopes,v69.2.2.kids,v69.2.1) ⟨by first | omega | (dsimp only;omega),F15⟩ [(5140,32139)]
 refine zA (zq (zp (zr (zU (zd (za ?_))))))
 refine zH rfl ?_
 refine s_mv ?_
 refine zf ?_
 exact s_rn (fu,(w64 (g7+1)),g49,g50,g51,g52,g53,g54) ⟨by first | omega | (dsimp only;omega),F11⟩ [(5020,5140)]
 refine zA (zq (zp (zr (zd (zb (za ?_))))))
 refine zI yA32 yS32 ?_
 refine zal yS32 ?_
 refine s_as ?_
 refine zf (zd (zh (zm ?_)))
 cases F3
 exact zag [] [5020] (by rw [Tryz.results38];exact (zaE (by conv=>lhs;whnf) (by conv=>lhs;whnf) yA32 yS32 rfl (zau (by conv=>lhs;whnf) zar)))
theorem m_impl_fill_1_st (fu:Nat) (ih_m_impl_fill:∀ k,k≤fu→zfJ k) (ih_m_impl_fill_1:∀ k,k≤fu→zfX k):zfX (fu+1):=by
 intro x1 x2 o1 o2 r F0
 rw [zdD] at F0
 refine AC_i [.t (.sc (.bool r.1))] Tryz.func89 rfl Tryz.ntmps89 ?_
 intro C hC
 refine zb (za ?_)
 refine za7 ?_
 refine s_as ?_
 refine zf (zd (zb (za ?_)))
 refine zI yA32 yS32 ?_
 refine s_mv ?_
 obtain ⟨v1,V1,F1⟩:=zc F0
 refine zx [] (ih_m_impl_fill fu (by omega) _ _ _ V1) ?_
 refine s_mv ?_
 refine zcp ?_
 refine zcp ?_
 refine z4 yZ32 ?_
 refine zal yS32 ?_
 refine s_as ?_
 refine zf (zd (zb (zb (za ?_))))
 refine s_mv ?_
 refine za3 ?_
 refine zf (zd ?_)
 refine zn F1 ?_ ?_<;>intro C2 F2
 refine zb (za ?_)
 refine s_as ?_
 refine zf (zd ?_)
 refine zeP 9001 9444 10444 [.t (.sc (.int .i64 o2.kind)),.t (.sc (.str o2.name)),.t (.sc (.int .i64 o2.n)),.t (.sl (o2.scopes.map rI)),.ar 10444] ?_
 refine zh (zg (zm ?_))
 cases F2
 exact zk _ [] Tryz.results89
 refine zi (zd (zb ?_))
 refine zZ yMix (by kernel_rfl) ?_
 refine zu yA3 ?_
 refine zI yA32 yS32 ?_
 obtain ⟨v3,V3,F3⟩:=zc F2
 refine zx [] (m_impl_FormSize_ok fu _ _ V3) ?_
 refine zH rfl ?_
 refine zal yS3 ?_
 refine zam (by kernel_rfl) ?_
 refine zd (zb ?_)
 refine zZ yMix (by kernel_rfl) ?_
 refine s_fa zD ?_
 refine zu yA24 ?_
 refine zI yA32 yS32 ?_
 refine zgv yU24 ?_
 refine s_bs Form.row [(Form.mk 0 (⟨#[]⟩:ByteArray) 0 ([]:List Int) ([]:List Form))] yP24 yR32 ?_
 obtain ⟨hk4,F4⟩:=zat F3
 refine zfw Form.row (fun y=>Form.row_len y) hk4 yP24 ?_
 obtain ⟨v5,V5,F5⟩:=zc F4
 refine zhC Form.row V5 yE24 ?_
 refine s_stA Form.row v1.1 V5 (Form.row_eq _) (Form.row_eq _) yS32 yS32 ?_
 refine s_fa zD ?_
 refine s_stP yS24 ?_
 refine zam (by kernel_rfl) ?_
 refine zd (zb (za ?_))
 refine zu yA3 ?_
 refine s_le ?_
 refine s_as ?_
 refine zf (zd ?_)
 refine zeP 9001 26 10444 [.t (.sc (.int .i64 o2.kind)),.t (.sc (.str o2.name)),.t (.sc (.int .i64 o2.n)),.t (.sl (o2.scopes.map rI)),.ar 10444] ?_
 refine zh (zm ?_)
 cases F5
 exact zk _ [] Tryz.results89
theorem m_impl_fill_all (fuel:Nat):zfJ fuel∧zfX fuel:=by
 induction fuel using Nat.strongRecOn with
 | _ N ih =>
   cases N with
   | zero=>exact ⟨(by intro x1 x2 r h;rw [zdQ] at h;cases h),(by intro x1 x2 o1 o2 r h;rw [zdD] at h;cases h)⟩
   | succ fu=>exact ⟨m_impl_fill_st fu (fun k hk=>(ih k (by omega)).1) (fun k hk=>(ih k (by omega)).2),m_impl_fill_1_st fu (fun k hk=>(ih k (by omega)).1) (fun k hk=>(ih k (by omega)).2)⟩
theorem m_impl_fill_ok (fuel:Nat):zfJ fuel:=(m_impl_fill_all fuel).1
def m_impl_formOr_AC (fuel:Nat):Prop:=∀ (x1:Form) (r:(Form × Bool)),zg4 fuel x1=some r→AC Tryz.prog 39 [.ag [.t (.sc (.int .i64 x1.kind)),.t (.sc (.str x1.name)),.t (.sc (.int .i64 x1.n)),.t (.sl (x1.scopes.map rI)),.t (.sl (x1.kids.map Form.row))]] noOb (.tp [.ag [.t (.sc (.int .i64 r.1.kind)),.t (.sc (.str r.1.name)),.t (.sc (.int .i64 r.1.n)),.t (.sl (r.1.scopes.map rI)),.t (.sl (r.1.kids.map Form.row))],.t (.sc (.bool r.2))]) noOb
theorem m_impl_formOr_ok (fuel:Nat):m_impl_formOr_AC fuel:=by
 intro x1 r F0
 unfold zg4 at F0
 refine AC_i [.ag [.t (.sc (.int .i64 r.1.kind)),.t (.sc (.str r.1.name)),.t (.sc (.int .i64 r.1.n)),.t (.sl (r.1.scopes.map rI)),.t (.sl (r.1.kids.map Form.row))],.t (.sc (.bool r.2))] Tryz.func39 rfl Tryz.ntmps39 ?_
 intro C hC
 refine zb (za ?_)
 refine za7 ?_
 refine z4 yZ32 ?_
 refine s_as ?_
 refine zf (zd (zb (zb (za ?_))))
 refine zI yA32 yS32 ?_
 obtain ⟨v1,V1,F1⟩:=zc F0
 refine zx [] (zcz fuel _ _ V1) ?_
 refine za3 ?_
 refine zf (zd ?_)
 refine zn F1 ?_ ?_<;>intro C2 F2
 refine zb (za ?_)
 refine zgQ yZ32 yL32 ?_
 refine zal yS32 ?_
 refine s_as ?_
 refine zf (zd (zh (zg (zm ?_))))
 cases F2
 exact zag [] [] (by rw [Tryz.results39];exact (zaE (by conv=>lhs;whnf) (by conv=>lhs;whnf) yA32 yS32 rfl (zau (by conv=>lhs;whnf) zar)))
 refine zi (zd (zb (za ?_)))
 refine zI yA32 yS32 ?_
 obtain ⟨v3,V3,F3⟩:=zc F2
 refine zx [] (zcP fuel _ _ V3) ?_
 refine zal yS32 ?_
 refine s_as ?_
 refine zf (zd (zh (zm ?_)))
 cases F3
 exact zag [] [] (by rw [Tryz.results39];exact (zaE (by conv=>lhs;whnf) (by conv=>lhs;whnf) yA32 yS32 rfl (zau (by conv=>lhs;whnf) zar)))
def m_impl_FillTemplate_AC (fuel:Nat):Prop:=∀ (x1:Form) (x2:(List Hit)) (r:(Form × Bool)),zdr fuel x1 x2=some r→AC Tryz.prog 15 [.ag [.t (.sc (.int .i64 x1.kind)),.t (.sc (.str x1.name)),.t (.sc (.int .i64 x1.n)),.t (.sl (x1.scopes.map rI)),.t (.sl (x1.kids.map Form.row))],.t (.sl (x2.map Hit.row))] noOb (.tp [.ag [.t (.sc (.int .i64 r.1.kind)),.t (.sc (.str r.1.name)),.t (.sc (.int .i64 r.1.n)),.t (.sl (r.1.scopes.map rI)),.t (.sl (r.1.kids.map Form.row))],.t (.sc (.bool r.2))]) noOb
theorem m_impl_FillTemplate_ok (fuel:Nat):m_impl_FillTemplate_AC fuel:=by
 intro x1 x2 r F0
 unfold zdr at F0
 refine AC_i [.ag [.t (.sc (.int .i64 r.1.kind)),.t (.sc (.str r.1.name)),.t (.sc (.int .i64 r.1.n)),.t (.sl (r.1.scopes.map rI)),.t (.sl (r.1.kids.map Form.row))],.t (.sc (.bool r.2))] Tryz.func15 rfl Tryz.ntmps15 ?_
 intro C hC
 refine zb (za ?_)
 refine za7 ?_
 refine z4 yZ32 ?_
 refine s_as ?_
 refine zf (zd (zb (zb (za ?_))))
 refine zI yA32 yS32 ?_
 refine s_mv ?_
 obtain ⟨v1,V1,F1⟩:=zc F0
 refine zx [] (zh5 fuel _ _ _ V1) ?_
 refine za3 ?_
 refine zf (zd ?_)
 refine zn F1 ?_ ?_<;>intro C2 F2
 refine zb (za ?_)
 refine zgQ yZ32 yL32 ?_
 refine zal yS32 ?_
 refine s_as ?_
 refine zf (zd (zh (zg (zm ?_))))
 cases F2
 exact zag [] [] (by rw [Tryz.results15];exact (zaE (by conv=>lhs;whnf) (by conv=>lhs;whnf) yA32 yS32 rfl (zau (by conv=>lhs;whnf) zar)))
 refine zi (zd (zb (za ?_)))
 refine zI yA32 yS32 ?_
 refine s_mv ?_
 obtain ⟨v3,V3,F3⟩:=zc F2
 refine zx [] (m_impl_fill_ok fuel _ _ _ V3) ?_
 refine s_mv ?_
 refine zcp ?_
 refine zcp ?_
 refine z4 yZ32 ?_
 refine zal yS32 ?_
 refine s_as ?_
 refine zf (zd (zb (zb (za ?_))))
 refine s_mv ?_
 refine za3 ?_
 refine zf (zd ?_)
 refine zn F3 ?_ ?_<;>intro C4 F4
 refine zb (za ?_)
 refine zgQ yZ32 yL32 ?_
 refine zal yS32 ?_
 refine s_as ?_
 refine zf (zd (zh (zg (zm ?_))))
 cases F4
 exact zag [] [] (by rw [Tryz.results15];exact (zaE (by conv=>lhs;whnf) (by conv=>lhs;whnf) yA32 yS32 rfl (zau (by conv=>lhs;whnf) zar)))
 refine zi (zd (zb (za ?_)))
 refine zI yA32 yS32 ?_
 obtain ⟨v5,V5,F5⟩:=zc F4
 refine zx [] (m_impl_formOr_ok fuel _ _ V5) ?_
 refine zcp ?_
 refine zcp ?_
 refine zal yS32 ?_
 refine s_as ?_
 refine zf (zd (zh (zm ?_)))
 cases F5
 exact zag [] [] (by rw [Tryz.results15];exact (zaE (by conv=>lhs;whnf) (by conv=>lhs;whnf) yA32 yS32 rfl (zau (by conv=>lhs;whnf) zar)))
def m_impl_ApplyRules_AC (fuel:Nat):Prop:=∀ (x1:(List Bind)) (x2:(List Rule)) (x3:(List Form)) (x4:Form) (r:(Form × Bool)),zdk fuel x1 x2 x3 x4=some r→AC Tryz.prog 12 [.t (.sl (x1.map Bind.row)),.t (.sl (x2.map Rule.row)),.t (.sl (x3.map Form.row)),.ag [.t (.sc (.int .i64 x4.kind)),.t (.sc (.str x4.name)),.t (.sc (.int .i64 x4.n)),.t (.sl (x4.scopes.map rI)),.t (.sl (x4.kids.map Form.row))]] noOb (.tp [.ag [.t (.sc (.int .i64 r.1.kind)),.t (.sc (.str r.1.name)),.t (.sc (.int .i64 r.1.n)),.t (.sl (r.1.scopes.map rI)),.t (.sl (r.1.kids.map Form.row))],.t (.sc (.bool r.2))]) noOb
theorem zg0 (fuel:Nat):m_impl_ApplyRules_AC fuel:=by
 intro x1 x2 x3 x4 r F0
 unfold zdk at F0
 refine AC_i [.ag [.t (.sc (.int .i64 r.1.kind)),.t (.sc (.str r.1.name)),.t (.sc (.int .i64 r.1.n)),.t (.sl (r.1.scopes.map rI)),.t (.sl (r.1.kids.map Form.row))],.t (.sc (.bool r.2))] Tryz.func12 rfl Tryz.ntmps12 ?_
 intro C hC
 refine zb (za ?_)
 refine za7 ?_
 refine z4 yZ32 ?_
 refine s_as ?_
 refine zf (zd (zb (za ?_)))
 iterate 3 refine s_mv ?_
 refine zI yA32 yS32 ?_
 obtain ⟨v1,V1,F1⟩:=zc F0
 refine zx [] (m_impl_FirstRule_ok fuel _ _ _ _ _ V1) ?_
 refine s_mv ?_
 refine zcp ?_
 refine zcp ?_
 refine s_as ?_
 refine s_as ?_
 refine zf (zd (zb (zb (za ?_))))
 refine s_mv ?_
 refine za3 ?_
 refine zf (zd ?_)
 refine zn F1 ?_ ?_<;>intro C2 F2
 refine zb (za ?_)
 refine zgQ yZ32 yL32 ?_
 refine zal yS32 ?_
 refine s_as ?_
 refine zf (zd (zh (zg (zm ?_))))
 cases F2
 exact zag [] [] (by rw [Tryz.results12];exact (zaE (by conv=>lhs;whnf) (by conv=>lhs;whnf) yA32 yS32 rfl (zau (by conv=>lhs;whnf) zar)))
 refine zi (zd (zb ?_))
 refine zZ yMix (by kernel_rfl) ?_
 iterate 3 refine s_mv ?_
 obtain ⟨v3,V3,F3⟩:=zc F2
 refine zR Rule.row V3 (Rule.row_eq _) yE23 ?_
 refine s_fa zhp ?_
 refine zak yA32 yS32 ?_
 refine s_mv ?_
 refine zI yA32 yS32 ?_
 obtain ⟨v4,V4,F4⟩:=zc F3
 refine zx [] (m_impl_match_ok fuel _ _ _ _ _ V4) ?_
 refine s_mv ?_
 refine zcp ?_
 refine zcp ?_
 refine s_as ?_
 refine s_as ?_
 refine zam (by kernel_rfl) ?_
 refine zd (zb (za ?_))
 refine s_mv ?_
 refine s_mv ?_
 obtain ⟨v5,V5,F5⟩:=zc F4
 refine zR Rule.row V5 (Rule.row_eq _) yE23 ?_
 refine s_fa yF37_1 ?_
 refine zak yA32 yS32 ?_
 refine s_mv ?_
 obtain ⟨v6,V6,F6⟩:=zc F5
 refine zx [] (m_impl_FillTemplate_ok fuel _ _ _ V6) ?_
 refine zcp ?_
 refine zcp ?_
 refine zal yS32 ?_
 refine s_as ?_
 refine zf (zd (zh (zm ?_)))
 cases F6
 exact zag [] [] (by rw [Tryz.results12];exact (zaE (by conv=>lhs;whnf) (by conv=>lhs;whnf) yA32 yS32 rfl (zau (by conv=>lhs;whnf) zar)))
def m_laws_FnDeadTwice_AC (fuel:Nat):Prop:=∀ (x1:(List Int)) (x2:(List Int)) (r:Bool),zeX fuel x1 x2=some r→AC Tryz.prog 3 [.t (.sl (x1.map rB)),.t (.sl (x2.map rB))] noOb (.t (.sc (.bool r))) noOb
theorem m_laws_FnDeadTwice_ok (fuel:Nat):m_laws_FnDeadTwice_AC fuel:=by
 intro x1 x2 r F0
 unfold zeX at F0
 refine AC_i [.t (.sc (.bool r))] Tryz.func3 rfl Tryz.ntmps3 ?_
 intro C hC
 refine zb (za ?_)
 refine s_as ?_
 refine zf (zd (zb ?_))
 refine zca (α:=Nat × Bool) [18,19,20,21,22,23,24,25] [] [] (fun a=>[(25,.t (.sc (.bool a.2)))]) (fun a=>[]) (fun a=>a.1≤fuel∧zba a.1 x1 x2 a.2=some r) ?_ ?_
 refine za ?_
 refine s_mv ?_
 refine zF yU22 ?_
 refine s_gt ?_
 refine s_mv ?_
 refine zo _ 21 F0 ?_ ?_<;>intro C1 F1
 iterate 3 refine r_no rfl ?_
 refine zz ?_
 refine zf ?_
 exact s_jn (fuel,true) ⟨by first | omega | (dsimp only;omega),F1⟩
 refine s_mv ?_
 refine zF yU22 ?_
 refine s_gt ?_
 refine zy ?_
 refine zf ?_
 exact s_jn (fuel,(decide (1048576 < (x2.length:Int)))) ⟨by first | omega | (dsimp only;omega),F1⟩
 clear F0
 rintro ⟨fu,g2⟩ ⟨hl3,F1⟩
 dsimp only at hl3 F1 ⊢
 obtain _ | fu:=fu
 · rw [zba] at F1;cases F1
 rw [zba] at F1
 refine zn F1 ?_ ?_<;>intro C4 F2
 refine zb (za ?_)
 refine s_as ?_
 refine zf (zd (zh (zg (zm ?_))))
 cases F2
 exact zk [] [] Tryz.results3
 refine zi (zd (zb (za ?_)))
 refine s_mv ?_
 obtain ⟨v5,V5,F3⟩:=zc F2
 refine zx [] (zh3 fu _ _ V5) ?_
 refine s_mv ?_
 refine zcp ?_
 refine zcp ?_
 refine s_as ?_
 refine s_as ?_
 refine zf (zd (zb (za ?_)))
 refine s_mv ?_
 refine s_mv ?_
 obtain ⟨v6,V6,F4⟩:=zc F3
 refine zx [] (m_impl_DeadRules_ok fu _ _ _ V6) ?_
 refine s_as ?_
 refine zf (zd (zb (zb (za ?_))))
 iterate 3 refine s_mv ?_
 obtain ⟨v7,V7,F5⟩:=zc F4
 refine zx [] (m_spec_DeadRules_ok fu _ _ _ V7) ?_
 obtain ⟨v8,V8,F6⟩:=zc F5
 refine zx [] (m_laws_mxInts_ok fu _ _ _ V8) ?_
 refine za3 ?_
 refine zf (zd ?_)
 refine zn F6 ?_ ?_<;>intro C9 F7
 refine zb (za ?_)
 refine s_as ?_
 refine zf (zd (zh (zg (zm ?_))))
 cases F7
 exact zk [] [] Tryz.results3
 refine zi (zd (zb (za ?_)))
 refine s_mv ?_
 obtain ⟨v10,V10,F8⟩:=zc F7
 refine zx [] (zh1 fu _ _ V10) ?_
 refine s_mv ?_
 iterate 4 refine zcp ?_
 refine z4 yZ32 ?_
 iterate 3 refine s_as ?_
 refine zal yS32 ?_
 refine zf (zd (zb (za ?_)))
 refine s_bs Rule.row ([]:List Rule) yP23 yR37 ?_
 refine s_as ?_
 refine zf (zd ?_)
 refine zca (α:=Nat × (List Rule)) [12,13,48,49,50,51,52,53,54,55,56,57,58,59,60,61,62,63,64] [47,5060] [] (fun a=>[(12,.ar 5060)]) (fun a=>[(47,.dead),(5060,.arr (a.2.map Rule.row) 37 true)]) (fun a=>a.1≤fu∧zb6 a.1 v5 v6 v10 a.2=some r) ?_ ?_
 refine zb (za ?_)
 refine s_as ?_
 refine zf (zd (zl ?_))
 refine zdf 12 47 5060 (by conv=>lhs;whnf) (by conv=>lhs;whnf) rfl ?_
 refine zaz [12,13,48,49,50,51,52,53,54,55,56,57,58,59,60,61,62,63,64] [5060] [63,64] [5060] (fun a:Nat × (List Rule) × Int=>a.1) (fun a:Nat × (List Rule) × Int=>[(12,.ar 5060),(13,.t (.sc (.int .i64 a.2.2)))]) (fun a:Nat × (List Rule) × Int=>[(5060,.arr (a.2.1.map Rule.row) 37 true)]) (fun a:Nat × (List Rule) × Int=>a.1≤fu∧zaL a.1 v5 v6 v10 a.2.1 a.2.2=some r∧0≤a.2.2) (fu,([]:List Rule),0) ⟨Nat.le_refl _,F8,by simp⟩ (by rfl) (by rfl) (fun _=>rfl) (zQ (by conv=>lhs;whnf) (by rfl) (zQ (by conv=>lhs;whnf) (by rfl) zbA)) (zV (by conv=>lhs;whnf) (by rfl) zbl) (zcq hC rfl) (by repeat (first | exact zai rfl | refine zax rfl ?_ | refine z8 rfl ?_)) (by repeat (first | exact zaU | exact zan rfl | refine zay rfl ?_ | refine z9 rfl ?_)) ?_
 clear F8
 rintro ⟨fu,g11,g12⟩ ⟨hl13,F9,hn_g12⟩
 dsimp only at hl13 F9 hn_g12 ⊢
 obtain _ | fu:=fu
 · rw [zaL] at F9;cases F9
 rw [zaL] at F9
 refine zb (zb (za ?_))
 refine s_mv ?_
 refine s_mv ?_
 refine zF yU23 ?_
 refine s_lt ?_
 refine zf (zd ?_)
 refine zn F9 ?_ ?_<;>intro C14 F10
 refine zN 5 (fun B15=>?_)
 refine zi (zd (zb (zl (zb (za ?_)))))
 refine s_mv ?_
 refine s_mv ?_
 obtain ⟨v16,V16,F11⟩:=zc F10
 refine zx [] (m_laws_mxIn_ok fu _ _ _ V16) ?_
 refine za3 ?_
 refine zf (zd ?_)
 refine zn F11 ?_ ?_<;>intro C17 F12
 refine za ?_
 iterate 3 refine s_mv ?_
 obtain ⟨v18,V18,F13⟩:=zc F12
 refine zR Rule.row V18 (Rule.row_eq _) yE23 ?_
 refine zak yA37 yS37 ?_
 refine s_bs Rule.row [v18] yP23 yR37 ?_
 obtain ⟨hk19,F14⟩:=zat F13
 refine zfw Rule.row (fun y=>Rule.row_len y) hk19 yP23 ?_
 refine s_as ?_
 refine zf (zU (zd (za ?_)))
 refine s_mv ?_
 refine zH (zaq C14 B15 hn_g12) ?_
 refine s_as ?_
 refine zf ?_
 exact s_rn (fu,(g11++[v18]),(g12+1)) ⟨by first | omega | (dsimp only;omega),F14,by first | omega | (dsimp only;omega)⟩ [(5060,64)]
 refine zi (zU (zd (za ?_)))
 refine s_mv ?_
 refine zH (zaq C14 B15 hn_g12) ?_
 refine s_as ?_
 refine zf ?_
 exact s_rn (fu,g11,(g12+1)) ⟨by first | omega | (dsimp only;omega),F12,by first | omega | (dsimp only;omega)⟩
 refine zA (zq (zp (zr ?_)))
 exact s_jn (fu,g11) ⟨by first | omega | (dsimp only;omega),F10⟩
 clear F8
 rintro ⟨fu,g20⟩ ⟨hl21,F9⟩
 dsimp only at hl21 F9 ⊢
 obtain _ | fu:=fu
 · rw [zb6] at F9;cases F9
 rw [zb6] at F9
 refine zb (za ?_)
 refine s_mv ?_
 refine s_mv ?_
 refine zI yA32 yS32 ?_
 obtain ⟨v22,V22,F10⟩:=zc F9
 refine zx [] (zg0 fu _ _ _ _ _ V22) ?_
 refine s_mv ?_
 refine zcp ?_
 refine zcp ?_
 refine z4 yZ32 ?_
 refine zal yS32 ?_
 refine s_as ?_
 refine zf (zd (zb (za ?_)))
 refine s_mv ?_
 refine s_mv ?_
 refine zI yA32 yS32 ?_
 obtain ⟨v23,V23,F11⟩:=zc F10
 refine zx [5060] (zg0 fu _ _ _ _ _ V23) ?_
 refine s_mv ?_
 refine zcp ?_
 refine zcp ?_
 refine z4 yZ32 ?_
 refine zal yS32 ?_
 refine s_as ?_
 refine zf (zd (zb (za ?_)))
 refine s_mv ?_
 refine s_mv ?_
 refine s_eqB yU4 ?_
 refine s_mv ?_
 refine zo _ 82 F11 ?_ ?_<;>intro C24 F12
 refine zI yA32 yS32 ?_
 refine zI yA32 yS32 ?_
 obtain ⟨v25,V25,F13⟩:=zc F12
 refine zx [] (zbz fu _ _ _ V25) ?_
 refine zz ?_
 refine s_mv ?_
 refine zo _ 87 F13 ?_ ?_<;>intro C26 F14
 refine s_mv ?_
 refine zF yU27 ?_
 refine s_eq ?_
 refine s_mv ?_
 refine zo _ 91 F14 ?_ ?_<;>intro C27 F15
 iterate 4 refine r_no rfl ?_
 refine zz ?_
 refine zz ?_
 refine s_as ?_
 refine zf (zd (zh (zm ?_)))
 cases F15
 exact zk [] [] Tryz.results3
 refine s_mv ?_
 obtain ⟨v28,V28,F16⟩:=zc F15
 refine zR rI V28 rfl yE27 ?_
 refine zu yA3 ?_
 refine s_gt ?_
 refine zy ?_
 refine zz ?_
 refine s_as ?_
 refine zf (zd (zh (zm ?_)))
 cases F16
 exact zk [] [] Tryz.results3
 iterate 9 refine r_no rfl ?_
 refine zy ?_
 refine s_as ?_
 refine zf (zd (zh (zm ?_)))
 cases F14
 exact zk [] [] Tryz.results3
 iterate 3 refine r_no rfl ?_
 refine zy ?_
 refine s_mv ?_
 iterate 9 refine r_no rfl ?_
 refine zy ?_
 refine s_as ?_
 refine zf (zd (zh (zm ?_)))
 cases F12
 exact zk [] [] Tryz.results3
end Go.Abs
