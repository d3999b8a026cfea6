/- A part of the proof: what the functions that the law calls answer, as pure values. -/
import Derived.Test.YtpdacpnncmemgaaGreatK63e788fc8be0
import Derived.Test.YtpdacpnncmemgaaGreatK44963eedd702
import Derived.Test.YtpdacpnncmemgaaGreatK2d4b5c3f1704
import Derived.Test.YtpdacpnncmemgaaGreatKa3188cc5fca6
import Derived.Test.YtpdacpnncmemgaaGreatKe229a176054d
import Derived.Test.YtpdacpnncmemgaaGreatK57e2d81719e9
import Derived.Test.YtpdacpnncmemgaaGreatKfaf2dbb53499
set_option linter.unusedSimpArgs false
set_option linter.unusedVariables false
set_option maxRecDepth 100000
set_option maxHeartbeats 4000000
namespace Go.Abs
open Go.Proofs
theorem m_impl_general_all (fuel:Nat):zfs fuel:=by
 induction fuel using Nat.strongRecOn with
 | _ N ih =>
   cases N with
   | zero=>exact (by intro x1 x2 x3 r h;rw [zdP] at h;cases h)
   | succ fu=>exact m_impl_general_st fu (fun k hk=>(ih k (by omega)))
theorem m_impl_general_ok (fuel:Nat):zfs fuel:=(m_impl_general_all fuel)
def m_impl_DeadRules_1_AC (fuel:Nat):Prop:=∀ (x1:Rule) (o1:Rule) (o2:(List Form)) (r:Bool),zdF fuel x1 o1 o2=some r→AC Tryz.prog 28 [.ag [.t (.sc (.int .i64 x1.pattern.kind)),.t (.sc (.str x1.pattern.name)),.t (.sc (.int .i64 x1.pattern.n)),.t (.sl (x1.pattern.scopes.map rI)),.t (.sl (x1.pattern.kids.map Form.row)),.t (.sc (.int .i64 x1.template.kind)),.t (.sc (.str x1.template.name)),.t (.sc (.int .i64 x1.template.n)),.t (.sl (x1.template.scopes.map rI)),.t (.sl (x1.template.kids.map Form.row))],.rf 9000 0,.rf 9001 0] (objs [(9000,.box [.t (.sc (.int .i64 o1.pattern.kind)),.t (.sc (.str o1.pattern.name)),.t (.sc (.int .i64 o1.pattern.n)),.t (.sl (o1.pattern.scopes.map rI)),.t (.sl (o1.pattern.kids.map Form.row)),.t (.sc (.int .i64 o1.template.kind)),.t (.sc (.str o1.template.name)),.t (.sc (.int .i64 o1.template.n)),.t (.sl (o1.template.scopes.map rI)),.t (.sl (o1.template.kids.map Form.row))]),(9001,.box [.t (.sl (o2.map Form.row))])]) (.t (.sc (.bool r))) (objs [(9000,.box [.t (.sc (.int .i64 o1.pattern.kind)),.t (.sc (.str o1.pattern.name)),.t (.sc (.int .i64 o1.pattern.n)),.t (.sl (o1.pattern.scopes.map rI)),.t (.sl (o1.pattern.kids.map Form.row)),.t (.sc (.int .i64 o1.template.kind)),.t (.sc (.str o1.template.name)),.t (.sc (.int .i64 o1.template.n)),.t (.sl (o1.template.scopes.map rI)),.t (.sl (o1.template.kids.map Form.row))]),(9001,.box [.t (.sl (o2.map Form.row))])])
theorem m_impl_DeadRules_1_ok (fuel:Nat):m_impl_DeadRules_1_AC fuel:=by
 intro x1 o1 o2 r F0
 unfold zdF at F0
 refine AC_i [.t (.sc (.bool r))] Tryz.func28 rfl Tryz.ntmps28 ?_
 intro C hC
 refine zb (za ?_)
 refine za7 ?_
 refine s_as ?_
 refine zf (zd (zb (za ?_)))
 refine s_fa zhp ?_
 refine zak yA32 yS32 ?_
 refine s_fa zhp ?_
 refine zak yA32 yS32 ?_
 refine zu yA24 ?_
 obtain ⟨v1,V1,F1⟩:=zc F0
 refine zx [] (m_impl_general_ok fuel _ _ _ _ V1) ?_
 refine s_as ?_
 refine zf (zd (zh (zm ?_)))
 cases F1
 exact zk _ [] Tryz.results28
def zfq (fuel:Nat):Prop:=∀ (x1:(List Rule)) (o1:Rule) (o2:(List Form)) (r:Int),zbg fuel x1 o1 o2=some r→AC Tryz.prog 67 [.t (.sl (x1.map Rule.row)),.fn 28 [.rf 9000 0,.rf 9001 0]] (objs [(9000,.box [.t (.sc (.int .i64 o1.pattern.kind)),.t (.sc (.str o1.pattern.name)),.t (.sc (.int .i64 o1.pattern.n)),.t (.sl (o1.pattern.scopes.map rI)),.t (.sl (o1.pattern.kids.map Form.row)),.t (.sc (.int .i64 o1.template.kind)),.t (.sc (.str o1.template.name)),.t (.sc (.int .i64 o1.template.n)),.t (.sl (o1.template.scopes.map rI)),.t (.sl (o1.template.kids.map Form.row))]),(9001,.box [.t (.sl (o2.map Form.row))])]) (.t (.sc (.int .i64 r))) (objs [(9000,.box [.t (.sc (.int .i64 o1.pattern.kind)),.t (.sc (.str o1.pattern.name)),.t (.sc (.int .i64 o1.pattern.n)),.t (.sl (o1.pattern.scopes.map rI)),.t (.sl (o1.pattern.kids.map Form.row)),.t (.sc (.int .i64 o1.template.kind)),.t (.sc (.str o1.template.name)),.t (.sc (.int .i64 o1.template.n)),.t (.sl (o1.template.scopes.map rI)),.t (.sl (o1.template.kids.map Form.row))]),(9001,.box [.t (.sl (o2.map Form.row))])])
theorem zfp (fuel:Nat):zfq fuel:=by
 intro x1 o1 o2 r F0
 unfold zbg at F0
 refine AC_i [.t (.sc (.int .i64 r))] Tryz.func67 rfl Tryz.ntmps67 ?_
 intro C hC
 refine zb (za ?_)
 refine s_as ?_
 refine zf (zd (zb (zb (za ?_))))
 refine s_mv ?_
 refine zF yU23 ?_
 refine s_mv ?_
 refine zf (zd (zl ?_))
 refine zaX (β:=Int) [4,5,8,9,10,11,12,13,14,15,16,17,18] [] [] (fun a=>[(8,.t (.sc (.int .i64 a.2)))]) (fun a=>[]) (fun a=>a.1≤fuel∧zX a.1 x1 o1 o2 a.2=some r∧0≤a.2) (fuel,0) ⟨Nat.le_refl _,F0,by simp⟩ ?_
 clear F0
 rintro ⟨fu,g1⟩ ⟨hl2,F1,hn_g1⟩
 dsimp only at hl2 F1 hn_g1 ⊢
 obtain _ | fu:=fu
 · rw [zX] at F1;cases F1
 rw [zX] at F1
 refine zb (za ?_)
 refine s_lt ?_
 refine zf (zd (zb ?_))
 refine zn F1 ?_ ?_<;>intro C3 F2
 refine zN 0 (fun B4=>?_)
 refine zi (zd (zb (zl (zb (za ?_)))))
 refine s_mv ?_
 refine s_as ?_
 refine zf (zd (zb (za ?_)))
 iterate 3 refine s_mv ?_
 obtain ⟨v5,V5,F3⟩:=zc F2
 refine zR Rule.row V5 (Rule.row_eq _) yE23 ?_
 refine zak yA37 yS37 ?_
 obtain ⟨v6,V6,F4⟩:=zc F3
 refine zL [(9000,9000),(9001,9001)] [] _ _ (m_impl_DeadRules_1_ok fu _ _ _ _ V6) ?_
 refine zf (zd ?_)
 refine zn F4 ?_ ?_<;>intro C7 F5
 refine zb (za ?_)
 refine s_mv ?_
 refine s_as ?_
 refine zf (zd (zh (zj (zg (zw (zj (zg (zm ?_))))))))
 cases F5
 exact zk _ [] Tryz.results67
 refine zi (zU (zd (za ?_)))
 refine zH (zaq C3 B4 hn_g1) ?_
 refine s_mv ?_
 refine zf ?_
 exact s_rn (fu,(g1+1)) ⟨by first | omega | (dsimp only;omega),F5,by first | omega | (dsimp only;omega)⟩
 refine zA (zq (zp (zr (zd (zb (za ?_))))))
 refine s_as ?_
 refine zf (zd (zh (zm ?_)))
 cases F2
 exact zk _ [] Tryz.results67
def zeO (fuel:Nat):Prop:=∀ (x1:(List Rule)) (o1:Rule) (o2:(List Form)) (r:Bool),zaR fuel x1 o1 o2=some r→AC Tryz.prog 27 [.t (.sl (x1.map Rule.row)),.fn 28 [.rf 9000 0,.rf 9001 0]] (objs [(9000,.box [.t (.sc (.int .i64 o1.pattern.kind)),.t (.sc (.str o1.pattern.name)),.t (.sc (.int .i64 o1.pattern.n)),.t (.sl (o1.pattern.scopes.map rI)),.t (.sl (o1.pattern.kids.map Form.row)),.t (.sc (.int .i64 o1.template.kind)),.t (.sc (.str o1.template.name)),.t (.sc (.int .i64 o1.template.n)),.t (.sl (o1.template.scopes.map rI)),.t (.sl (o1.template.kids.map Form.row))]),(9001,.box [.t (.sl (o2.map Form.row))])]) (.t (.sc (.bool r))) (objs [(9000,.box [.t (.sc (.int .i64 o1.pattern.kind)),.t (.sc (.str o1.pattern.name)),.t (.sc (.int .i64 o1.pattern.n)),.t (.sl (o1.pattern.scopes.map rI)),.t (.sl (o1.pattern.kids.map Form.row)),.t (.sc (.int .i64 o1.template.kind)),.t (.sc (.str o1.template.name)),.t (.sc (.int .i64 o1.template.n)),.t (.sl (o1.template.scopes.map rI)),.t (.sl (o1.template.kids.map Form.row))]),(9001,.box [.t (.sl (o2.map Form.row))])])
theorem zeN (fuel:Nat):zeO fuel:=by
 intro x1 o1 o2 r F0
 unfold zaR at F0
 refine AC_i [.t (.sc (.bool r))] Tryz.func27 rfl Tryz.ntmps27 ?_
 intro C hC
 refine zb (za ?_)
 refine s_as ?_
 refine zf (zd (zb (za ?_)))
 refine s_mv ?_
 refine s_mv ?_
 obtain ⟨v1,V1,F1⟩:=zc F0
 refine zL [(9000,9000),(9001,9001)] [] _ _ (zfp fuel _ _ _ _ V1) ?_
 refine s_ge ?_
 refine s_as ?_
 refine zf (zd (zh (zm ?_)))
 cases F1
 exact zk _ [] Tryz.results27
def m_impl_DeadRules_AC (fuel:Nat):Prop:=∀ (x1:(List Rule)) (x2:(List Form)) (r:(List Int)),zeE fuel x1 x2=some r→AC Tryz.prog 7 [.t (.sl (x1.map Rule.row)),.t (.sl (x2.map Form.row))] noOb (.t (.sl (r.map rI))) noOb
theorem m_impl_DeadRules_ok (fuel:Nat):m_impl_DeadRules_AC fuel:=by
 intro x1 x2 r F0
 unfold zeE at F0
 refine AC_i [.t (.sl (r.map rI))] Tryz.func7 rfl Tryz.ntmps7 ?_
 intro C hC
 refine zb (za ?_)
 refine za7 ?_
 refine s_as ?_
 refine zf (zd (zb (za ?_)))
 refine s_bs rI ([]:List Int) yP27 yR3 ?_
 refine s_as ?_
 refine zf (zd (zb (zb (za ?_))))
 refine s_mv ?_
 refine zu yA24 ?_
 obtain ⟨v1,V1,F1⟩:=zc F0
 refine zx [] (zhJ fuel _ _ _ V1) ?_
 refine za3 ?_
 refine zf (zd ?_)
 refine zn F1 ?_ ?_<;>intro C2 F2
 refine zb (za ?_)
 refine s_mv ?_
 refine s_as ?_
 refine zf (zd (zh (zg (zm ?_))))
 cases F2
 exact zk [] [8] Tryz.results7
 refine zi (zd (zb (zb (za ?_))))
 refine s_mv ?_
 refine zF yU23 ?_
 refine s_mv ?_
 refine zf (zd (zl ?_))
 refine zdf 5 8 5020 (by conv=>lhs;whnf) (by conv=>lhs;whnf) rfl ?_
 refine zaz [5,6,7,16,17,18,19,20,21,22,23,24,25,26,27,28,29,30] [5020] [7,28,29] [5020] (fun a:Nat × (List Int) × Int=>a.1) (fun a:Nat × (List Int) × Int=>[(5,.ar 5020),(16,.t (.sc (.int .i64 a.2.2)))]) (fun a:Nat × (List Int) × Int=>[(5020,.arr (a.2.1.map rI) 3 true)]) (fun a:Nat × (List Int) × Int=>a.1≤fuel∧zbj a.1 x1 x2 a.2.1 a.2.2=some r∧0≤a.2.2) (fuel,([]:List Int),0) ⟨Nat.le_refl _,F2,by simp⟩ (by rfl) (by rfl) (fun _=>rfl) (zQ (by conv=>lhs;whnf) (by rfl) (zQ (by conv=>lhs;whnf) (by rfl) zbA)) (zV (by conv=>lhs;whnf) (by rfl) zbl) (zcq hC rfl) (by repeat (first | exact zai rfl | refine zax rfl ?_ | refine z8 rfl ?_)) (by repeat (first | exact zaU | exact zan rfl | refine zay rfl ?_ | refine z9 rfl ?_)) ?_
 clear F2
 rintro ⟨fu,g3,g4⟩ ⟨hl5,F3,hn_g4⟩
 dsimp only at hl5 F3 hn_g4 ⊢
 obtain _ | fu:=fu
 · rw [zbj] at F3;cases F3
 rw [zbj] at F3
 refine zb (za ?_)
 refine s_lt ?_
 refine zf (zd (zb ?_))
 refine zn F3 ?_ ?_<;>intro C6 F4
 refine zN 0 (fun B7=>?_)
 refine zi (zd (zb (zl (zb (za ?_)))))
 refine s_mv ?_
 obtain ⟨v8,V8,F5⟩:=zc F4
 refine zR Rule.row V8 (Rule.row_eq _) yE23 ?_
 refine zak yA37 yS37 ?_
 refine z4 yZ37 ?_
 refine s_as ?_
 refine zal yS37 ?_
 refine zf (zd (zb (za ?_)))
 refine s_mv ?_
 refine s_mv ?_
 obtain ⟨v9,V9,F6⟩:=zc F5
 refine s_sl01 Rule.row (fun y=>Rule.row_len y) V9 yU23 yE23 ?_
 refine s_fn ?_
 obtain ⟨v10,V10,F7⟩:=zc F6
 refine zL [(9000,7),(9001,3)] [] _ _ (zeN fu _ _ _ _ V10) ?_
 refine zf (zd ?_)
 refine zn F7 ?_ ?_<;>intro C11 F8
 refine za ?_
 refine s_mv ?_
 refine s_mv ?_
 refine s_bs rI [g4] yP27 yR3 ?_
 obtain ⟨hk12,F9⟩:=zat F8
 refine zfw rI (fun _=>rfl) hk12 yP27 ?_
 refine s_as ?_
 refine zf (zU (zd (za ?_)))
 refine zH (zaq C6 B7 hn_g4) ?_
 refine s_mv ?_
 refine zf ?_
 exact s_rn (fu,(g3++[g4]),(g4+1)) ⟨by first | omega | (dsimp only;omega),F9,by first | omega | (dsimp only;omega)⟩ [(5020,29)]
 refine zi (zU (zd (za ?_)))
 refine zH (zaq C6 B7 hn_g4) ?_
 refine s_mv ?_
 refine zf ?_
 exact s_rn (fu,g3,(g4+1)) ⟨by first | omega | (dsimp only;omega),F8,by first | omega | (dsimp only;omega)⟩
 refine zA (zq (zp (zr (zd (zb (za ?_))))))
 refine s_mv ?_
 refine s_as ?_
 refine zf (zd (zh (zm ?_)))
 cases F4
 exact zk [] [5020] Tryz.results7
def zd4 (fuel:Nat):Prop:=∀ (x1:Form) (x2:Form) (x3:(List Form)) (r:Bool),zcR fuel x1 x2 x3=some r→AC Tryz.prog 31 [.ag [.t (.sc (.int .i64 x1.kind)),.t (.sc (.str x1.name)),.t (.sc (.int .i64 x1.n)),.t (.sl (x1.scopes.map rI)),.t (.sl (x1.kids.map Form.row))],.ag [.t (.sc (.int .i64 x2.kind)),.t (.sc (.str x2.name)),.t (.sc (.int .i64 x2.n)),.t (.sl (x2.scopes.map rI)),.t (.sl (x2.kids.map Form.row))],.t (.sl (x3.map Form.row))] noOb (.t (.sc (.bool r))) noOb
theorem m_spec_l5General_st (fu:Nat) (ih_m_spec_l5General:∀ k,k≤fu→zd4 k):zd4 (fu+1):=by
 intro x1 x2 x3 r F0
 rw [zcR] at F0
 refine AC_i [.t (.sc (.bool r))] Tryz.func31 rfl Tryz.ntmps31 ?_
 intro C hC
 refine zb (za ?_)
 refine za7 ?_
 refine za7 ?_
 refine s_as ?_
 refine zf (zd ?_)
 refine zca (α:=Nat) [6,8,9,10,11,12,13,14,15,16,17,18,19,20,21] [] [] (fun a=>[]) (fun a=>[]) (fun a=>a≤fu∧zbC a x1 x2 x3 =some r) ?_ ?_
 refine zb (za ?_)
 refine s_fa zcN ?_
 refine zu yA3 ?_
 refine s_eq ?_
 refine s_mv ?_
 refine zo _ 11 F0 ?_ ?_<;>intro C1 F1
 refine s_fa zcB ?_
 refine zu yA9 ?_
 refine s_neS ?_
 refine zz ?_
 refine s_mv ?_
 refine zo _ 16 F1 ?_ ?_<;>intro C2 F2
 refine s_mv ?_
 refine zI yA32 yS32 ?_
 obtain ⟨v3,V3,F3⟩:=zc F2
 refine zx [] (zgF fu _ _ _ V3) ?_
 refine za3 ?_
 refine zz ?_
 refine zf (zd ?_)
 refine zn F3 ?_ ?_<;>intro C4 F4
 refine zb (za ?_)
 refine s_as ?_
 refine zf (zd (zh (zgp (zm ?_))))
 cases F4
 exact zk [] [] Tryz.results31
 refine zi ?_
 exact s_jn (fu) ⟨by first | omega | (dsimp only;omega),F4⟩
 iterate 4 refine r_no rfl ?_
 refine zy ?_
 refine zf (zd (zaP rfl (zi ?_)))
 exact s_jn (fu) ⟨by first | omega | (dsimp only;omega),F2⟩
 iterate 3 refine r_no rfl ?_
 refine zy ?_
 refine s_mv ?_
 iterate 4 refine r_no rfl ?_
 refine zy ?_
 refine zf (zd (zaP rfl (zi ?_)))
 exact s_jn (fu) ⟨by first | omega | (dsimp only;omega),F1⟩
 clear F0
 rintro fu ⟨hl5,F1⟩
 obtain _ | fu:=fu
 · rw [zbC] at F1;cases F1
 rw [zbC] at F1
 refine zb (zb (za ?_))
 refine s_fa zcN ?_
 refine zu yA3 ?_
 refine s_ne ?_
 refine zf (zd ?_)
 refine zn F1 ?_ ?_<;>intro C6 F2
 refine zb (za ?_)
 refine zI yA32 yS32 ?_
 refine zI yA32 yS32 ?_
 obtain ⟨v7,V7,F3⟩:=zc F2
 refine zx [] (zge fu _ _ _ V7) ?_
 refine s_as ?_
 refine zf (zd (zh (zg (zm ?_))))
 cases F3
 exact zk [] [] Tryz.results31
 refine zi (zd (zb ?_))
 refine zca (α:=Nat × Bool) [28,29,30,31,32,33,34,35,36,37,38,39] [] [] (fun a=>[(39,.t (.sc (.bool a.2)))]) (fun a=>[]) (fun a=>a.1≤fu∧zbB a.1 x1 x2 x3 a.2=some r) ?_ ?_
 refine za ?_
 refine s_fa zcN ?_
 refine zu yA3 ?_
 refine s_ne ?_
 refine s_mv ?_
 refine zo _ 31 F2 ?_ ?_<;>intro C8 F3
 iterate 7 refine r_no rfl ?_
 refine zz ?_
 refine zf ?_
 exact s_jn (fu,true) ⟨by first | omega | (dsimp only;omega),F3⟩
 refine s_fa zD ?_
 refine zu yA24 ?_
 refine zF yU24 ?_
 refine s_fa zD ?_
 refine zu yA24 ?_
 refine zF yU24 ?_
 refine s_ne ?_
 refine zy ?_
 refine zf ?_
 exact s_jn (fu,(decide ((x1.kids.length:Int)≠(x2.kids.length:Int)))) ⟨by first | omega | (dsimp only;omega),F3⟩
 clear F2
 rintro ⟨fu,g9⟩ ⟨hl10,F3⟩
 dsimp only at hl10 F3 ⊢
 obtain _ | fu:=fu
 · rw [zbB] at F3;cases F3
 rw [zbB] at F3
 refine zn F3 ?_ ?_<;>intro C11 F4
 refine zb (za ?_)
 refine s_as ?_
 refine zf (zd (zh (zg (zm ?_))))
 cases F4
 exact zk [] [] Tryz.results31
 refine zi (zd (zb (zb (za ?_))))
 refine s_as ?_
 refine zf (zd (zl ?_))
 refine zaX (β:=Int) [6,7,40,41,42,43,44,45,46,47,48,49,50,51,52,53,54,55,56,57,58,59,60,61,62,63,64,65,66,67,68,69,70,71,72,73,74,75,76,77,78,79,80,81,82,83] [] [] (fun a=>[(7,.t (.sc (.int .i64 a.2)))]) (fun a=>[]) (fun a=>a.1≤fu∧zbc a.1 x1 x2 x3 a.2=some r∧0≤a.2) (fu,0) ⟨Nat.le_refl _,F4,by simp⟩ ?_
 clear F4
 rintro ⟨fu,g12⟩ ⟨hl13,F5,hn_g12⟩
 dsimp only at hl13 F5 hn_g12 ⊢
 obtain _ | fu:=fu
 · rw [zbc] at F5;cases F5
 rw [zbc] at F5
 refine zb (zb (za ?_))
 refine s_mv ?_
 refine s_fa zD ?_
 refine zu yA24 ?_
 refine zF yU24 ?_
 refine s_lt ?_
 refine zf (zd ?_)
 refine zn F5 ?_ ?_<;>intro C14 F6
 refine zN 42 (fun B15=>?_)
 refine zi (zd (zb (zl (zb ?_))))
 refine zZ yMix (by kernel_rfl) ?_
 refine s_fa zD ?_
 refine zu yA24 ?_
 refine s_mv ?_
 obtain ⟨v16,V16,F7⟩:=zc F6
 refine zR Form.row V16 (Form.row_eq _) yE24 ?_
 refine zak yA32 yS32 ?_
 obtain ⟨v17,V17,F8⟩:=zc F7
 refine zx [] (za0 fu _ _ V17) ?_
 refine s_fa zD ?_
 refine zu yA24 ?_
 refine s_mv ?_
 obtain ⟨v18,V18,F9⟩:=zc F8
 refine zR Form.row V18 (Form.row_eq _) yE24 ?_
 refine zak yA32 yS32 ?_
 obtain ⟨v19,V19,F10⟩:=zc F9
 refine zx [] (za0 fu _ _ V19) ?_
 refine s_neB yU4 ?_
 refine s_mv ?_
 refine zo _ 60 F10 ?_ ?_<;>intro C20 F11
 iterate 22 refine r_no rfl ?_
 refine zz ?_
 refine zam (by kernel_rfl) ?_
 refine zd (zK rfl (zb (za ?_)))
 refine s_as ?_
 refine zf (zd (zh (zj (zg (zw (zj (zg (zm ?_))))))))
 cases F11
 exact zk [] [] Tryz.results31
 refine s_fa zD ?_
 refine zu yA24 ?_
 refine s_mv ?_
 obtain ⟨v21,V21,F12⟩:=zc F11
 refine zR Form.row V21 (Form.row_eq _) yE24 ?_
 refine zak yA32 yS32 ?_
 obtain ⟨v22,V22,F13⟩:=zc F12
 refine zx [] (za0 fu _ _ V22) ?_
 refine za3 ?_
 refine s_mv ?_
 refine zo _ 68 F13 ?_ ?_<;>intro C23 F14
 refine s_fa zD ?_
 refine zu yA24 ?_
 refine s_mv ?_
 obtain ⟨v24,V24,F15⟩:=zc F14
 refine zR Form.row V24 (Form.row_eq _) yE24 ?_
 refine zak yA32 yS32 ?_
 refine s_fa zD ?_
 refine zu yA24 ?_
 refine s_mv ?_
 obtain ⟨v25,V25,F16⟩:=zc F15
 refine zR Form.row V25 (Form.row_eq _) yE24 ?_
 refine zak yA32 yS32 ?_
 refine s_mv ?_
 obtain ⟨v26,V26,F17⟩:=zc F16
 refine zx [] (ih_m_spec_l5General fu (by omega) _ _ _ _ V26) ?_
 refine za3 ?_
 refine zz ?_
 refine zy ?_
 refine zam (by kernel_rfl) ?_
 refine zd ?_
 refine zn F17 ?_ ?_<;>intro C27 F18
 refine zb (za ?_)
 refine s_as ?_
 refine zf (zd (zh (zj (zg (zw (zj (zg (zm ?_))))))))
 cases F18
 exact zk [] [] Tryz.results31
 refine zi (zU (zd (za ?_)))
 refine s_mv ?_
 refine zH (zaq C14 B15 hn_g12) ?_
 refine s_as ?_
 refine zf ?_
 exact s_rn (fu,(g12+1)) ⟨by first | omega | (dsimp only;omega),F18,by first | omega | (dsimp only;omega)⟩
 iterate 13 refine r_no rfl ?_
 refine zy ?_
 refine zy ?_
 refine zam (by kernel_rfl) ?_
 refine zd (zaP rfl (zi (zU (zd (za ?_)))))
 refine s_mv ?_
 refine zH (zaq C14 B15 hn_g12) ?_
 refine s_as ?_
 refine zf ?_
 exact s_rn (fu,(g12+1)) ⟨by first | omega | (dsimp only;omega),F14,by first | omega | (dsimp only;omega)⟩
 refine zA (zq (zp (zr (zd (zb (za ?_))))))
 refine s_as ?_
 refine zf (zd (zh (zm ?_)))
 cases F6
 exact zk [] [] Tryz.results31
theorem m_spec_l5General_all (fuel:Nat):zd4 fuel:=by
 induction fuel using Nat.strongRecOn with
 | _ N ih =>
   cases N with
   | zero=>exact (by intro x1 x2 x3 r h;rw [zcR] at h;cases h)
   | succ fu=>exact m_spec_l5General_st fu (fun k hk=>(ih k (by omega)))
theorem m_spec_l5General_ok (fuel:Nat):zd4 fuel:=(m_spec_l5General_all fuel)
def m_spec_DeadRules_AC (fuel:Nat):Prop:=∀ (x1:(List Rule)) (x2:(List Form)) (r:(List Int)),zeu fuel x1 x2=some r→AC Tryz.prog 9 [.t (.sl (x1.map Rule.row)),.t (.sl (x2.map Form.row))] noOb (.t (.sl (r.map rI))) noOb
theorem m_spec_DeadRules_ok (fuel:Nat):m_spec_DeadRules_AC fuel:=by
 intro x1 x2 r F0
 unfold zeu at F0
 refine AC_i [.t (.sl (r.map rI))] Tryz.func9 rfl Tryz.ntmps9 ?_
 intro C hC
 refine zb (za ?_)
 refine s_as ?_
 refine zf (zd (zb (za ?_)))
 refine s_bs rI ([]:List Int) yP27 yR3 ?_
 refine s_as ?_
 refine zf (zd (zb (zb (za ?_))))
 refine s_as ?_
 refine zf (zd (zl ?_))
 refine zdf 5 9 5020 (by conv=>lhs;whnf) (by conv=>lhs;whnf) rfl ?_
 refine zaz [5,6,7,8,10,11,12,13,14,15,16,17,18,19,20,21,22,23,24,25,26,27,28,29,30,31,32,33,34,35,36,37,38,39,40,41,42,43,44,45,46] [5020] [45,46] [5020] (fun a:Nat × (List Int) × Int=>a.1) (fun a:Nat × (List Int) × Int=>[(5,.ar 5020),(6,.t (.sc (.int .i64 a.2.2)))]) (fun a:Nat × (List Int) × Int=>[(5020,.arr (a.2.1.map rI) 3 true)]) (fun a:Nat × (List Int) × Int=>a.1≤fuel∧zaQ a.1 x1 x2 a.2.1 a.2.2=some r) (fuel,([]:List Int),0) ⟨Nat.le_refl _,F0⟩ (by rfl) (by rfl) (fun _=>rfl) (zQ (by conv=>lhs;whnf) (by rfl) (zQ (by conv=>lhs;whnf) (by rfl) zbA)) (zV (by conv=>lhs;whnf) (by rfl) zbl) (zcq hC rfl) (by repeat (first | exact zai rfl | refine zax rfl ?_ | refine z8 rfl ?_)) (by repeat (first | exact zaU | exact zan rfl | refine zay rfl ?_ | refine z9 rfl ?_)) ?_
 clear F0
 rintro ⟨fu,g1,g2⟩ ⟨hl3,F1⟩
 dsimp only at hl3 F1 ⊢
 obtain _ | fu:=fu
 · rw [zaQ] at F1;cases F1
 rw [zaQ] at F1
 refine zb ?_
 refine zca (α:=Nat × Bool) [10,11,12,13,14,15,16,17,18] [] [] (fun a=>[(18,.t (.sc (.bool a.2)))]) (fun a=>[]) (fun a=>a.1≤fu∧zbf a.1 x1 x2 g1 g2 a.2=some r) ?_ ?_
 refine za ?_
 refine s_mv ?_
 refine s_mv ?_
 refine zF yU23 ?_
 refine s_lt ?_
 refine s_mv ?_
 refine zo _ 14 F1 ?_ ?_<;>intro C4 F2
 refine s_mv ?_
 refine s_mv ?_
 obtain ⟨v5,V5,F3⟩:=zc F2
 refine zx [] (zhE fu _ _ _ V5) ?_
 refine zz ?_
 refine zf ?_
 exact s_jn (fu,v5) ⟨by first | omega | (dsimp only;omega),F3⟩
 iterate 3 refine r_no rfl ?_
 refine zy ?_
 refine zf ?_
 exact s_jn (fu,false) ⟨by first | omega | (dsimp only;omega),F2⟩
 clear F1
 rintro ⟨fu,g6⟩ ⟨hl7,F2⟩
 dsimp only at hl7 F2 ⊢
 obtain _ | fu:=fu
 · rw [zbf] at F2;cases F2
 rw [zbf] at F2
 refine zn F2 ?_ ?_<;>intro C8 F3
 refine zi (zd (zb (zl (zb (za ?_)))))
 refine s_as ?_
 refine zf (zd ?_)
 refine zca (α:=Nat × Bool) [7,8,21,22,23,24,25,26,27,28,29,30,31,32,33,34,35,36,37,38,39,40,41] [] [] (fun a=>[(7,.t (.sc (.bool a.2)))]) (fun a=>[]) (fun a=>a.1≤fu∧zcw a.1 x1 x2 g1 g2 a.2=some r) ?_ ?_
 refine zb (za ?_)
 refine s_as ?_
 refine zf (zd (zl ?_))
 refine zaX (β:=Bool × Int) [7,8,21,22,23,24,25,26,27,28,29,30,31,32,33,34,35,36,37,38,39,40,41] [] [] (fun a=>[(7,.t (.sc (.bool a.2.1))),(8,.t (.sc (.int .i64 a.2.2)))]) (fun a=>[]) (fun a=>a.1≤fu∧zbe a.1 x1 x2 g1 g2 a.2.1 a.2.2=some r) (fu,false,0) ⟨Nat.le_refl _,F3⟩ ?_
 clear F3
 rintro ⟨fu,g9,g10⟩ ⟨hl11,F4⟩
 dsimp only at hl11 F4 ⊢
 obtain _ | fu:=fu
 · rw [zbe] at F4;cases F4
 rw [zbe] at F4
 refine zb ?_
 refine zca (α:=Nat × Bool) [21,22,23,24,25,26,27] [] [] (fun a=>[(27,.t (.sc (.bool a.2)))]) (fun a=>[]) (fun a=>a.1≤fu∧zbF a.1 x1 x2 g1 g2 g9 g10 a.2=some r) ?_ ?_
 refine za ?_
 refine s_mv ?_
 refine s_mv ?_
 refine s_lt ?_
 refine s_mv ?_
 refine zo _ 24 F4 ?_ ?_<;>intro C12 F5
 refine s_mv ?_
 refine za3 ?_
 refine zz ?_
 refine zf ?_
 exact s_jn (fu,(!g9)) ⟨by first | omega | (dsimp only;omega),F5⟩
 refine r_no rfl (r_no rfl ?_)
 refine zy ?_
 refine zf ?_
 exact s_jn (fu,false) ⟨by first | omega | (dsimp only;omega),F5⟩
 clear F4
 rintro ⟨fu,g13⟩ ⟨hl14,F5⟩
 dsimp only at hl14 F5 ⊢
 obtain _ | fu:=fu
 · rw [zbF] at F5;cases F5
 rw [zbF] at F5
 refine zn F5 ?_ ?_<;>intro C15 F6
 refine zi (zd (zb (zl ?_)))
 refine zZ yMix (by kernel_rfl) ?_
 refine s_mv ?_
 refine s_mv ?_
 obtain ⟨v16,V16,F7⟩:=zc F6
 refine zR Rule.row V16 (Rule.row_eq _) yE23 ?_
 refine s_fa zhp ?_
 refine zak yA32 yS32 ?_
 refine s_mv ?_
 refine s_mv ?_
 obtain ⟨v17,V17,F8⟩:=zc F7
 refine zR Rule.row V17 (Rule.row_eq _) yE23 ?_
 refine s_fa zhp ?_
 refine zak yA32 yS32 ?_
 refine s_mv ?_
 obtain ⟨v18,V18,F9⟩:=zc F8
 refine zx [] (m_spec_l5General_ok fu _ _ _ _ V18) ?_
 refine s_as ?_
 refine zam (by kernel_rfl) ?_
 refine zU (zd (za ?_))
 refine s_mv ?_
 refine zH rfl ?_
 refine s_as ?_
 refine zf ?_
 exact s_rn (fu,v18,(w64 (g10+1))) ⟨by first | omega | (dsimp only;omega),F9⟩
 refine zA (zq (zp (zr ?_)))
 exact s_jn (fu,g9) ⟨by first | omega | (dsimp only;omega),F6⟩
 clear F3
 rintro ⟨fu,g19⟩ ⟨hl20,F4⟩
 dsimp only at hl20 F4 ⊢
 obtain _ | fu:=fu
 · rw [zcw] at F4;cases F4
 rw [zcw] at F4
 refine zb (za ?_)
 refine s_mv ?_
 refine zf (zd ?_)
 refine zn F4 ?_ ?_<;>intro C21 F5
 refine za ?_
 refine s_mv ?_
 refine s_mv ?_
 refine s_bs rI [g2] yP27 yR3 ?_
 obtain ⟨hk22,F6⟩:=zat F5
 refine zfw rI (fun _=>rfl) hk22 yP27 ?_
 refine s_as ?_
 refine zf (zU (zd (za ?_)))
 refine s_mv ?_
 refine zH rfl ?_
 refine s_as ?_
 refine zf ?_
 exact s_rn (fu,(g1++[g2]),(w64 (g2+1))) ⟨by first | omega | (dsimp only;omega),F6⟩ [(5020,46)]
 refine zi (zU (zd (za ?_)))
 refine s_mv ?_
 refine zH rfl ?_
 refine s_as ?_
 refine zf ?_
 exact s_rn (fu,g1,(w64 (g2+1))) ⟨by first | omega | (dsimp only;omega),F5⟩
 refine zA (zq (zp (zr (zd (zb (za ?_))))))
 refine s_mv ?_
 refine s_as ?_
 refine zf (zd (zh (zm ?_)))
 cases F3
 exact zk [] [5020] Tryz.results9
def m_laws_mxInts_AC (fuel:Nat):Prop:=∀ (x1:(List Int)) (x2:(List Int)) (r:Bool),zgm fuel x1 x2=some r→AC Tryz.prog 8 [.t (.sl (x1.map rI)),.t (.sl (x2.map rI))] noOb (.t (.sc (.bool r))) noOb
theorem m_laws_mxInts_ok (fuel:Nat):m_laws_mxInts_AC fuel:=by
 intro x1 x2 r F0
 unfold zgm at F0
 refine AC_i [.t (.sc (.bool r))] Tryz.func8 rfl Tryz.ntmps8 ?_
 intro C hC
 refine zb (za ?_)
 refine s_as ?_
 refine zf (zd (zb (zb (za ?_))))
 refine s_mv ?_
 refine zF yU27 ?_
 refine s_mv ?_
 refine zF yU27 ?_
 refine s_ne ?_
 refine zf (zd ?_)
 refine zn F0 ?_ ?_<;>intro C1 F1
 refine zb (za ?_)
 refine s_as ?_
 refine zf (zd (zh (zg (zm ?_))))
 cases F1
 exact zk [] [] Tryz.results8
 refine zi (zd (zb (zb (za ?_))))
 refine s_as ?_
 refine zf (zd (zl ?_))
 refine zaX (β:=Int) [4,5,11,12,13,14,15,16,17,18,19,20,21,22,23,24,25] [] [] (fun a=>[(5,.t (.sc (.int .i64 a.2)))]) (fun a=>[]) (fun a=>a.1≤fuel∧zcV a.1 x1 x2 a.2=some r∧0≤a.2) (fuel,0) ⟨Nat.le_refl _,F1,by simp⟩ ?_
 clear F1
 rintro ⟨fu,g2⟩ ⟨hl3,F2,hn_g2⟩
 dsimp only at hl3 F2 hn_g2 ⊢
 obtain _ | fu:=fu
 · rw [zcV] at F2;cases F2
 rw [zcV] at F2
 refine zb (zb (za ?_))
 refine s_mv ?_
 refine s_mv ?_
 refine zF yU27 ?_
 refine s_lt ?_
 refine zf (zd ?_)
 refine zn F2 ?_ ?_<;>intro C4 F3
 refine zN 0 (fun B5=>?_)
 refine zi (zd (zb (zl (zb ?_))))
 refine zZ yMix (by kernel_rfl) ?_
 refine s_mv ?_
 refine s_mv ?_
 obtain ⟨v6,V6,F4⟩:=zc F3
 refine zR rI V6 rfl yE27 ?_
 refine zu yA3 ?_
 refine s_mv ?_
 refine s_mv ?_
 obtain ⟨v7,V7,F5⟩:=zc F4
 refine zR rI V7 rfl yE27 ?_
 refine zu yA3 ?_
 refine s_ne ?_
 refine zam (by kernel_rfl) ?_
 refine zd ?_
 refine zn F5 ?_ ?_<;>intro C8 F6
 refine zb (za ?_)
 refine s_as ?_
 refine zf (zd (zh (zj (zg (zw (zj (zg (zm ?_))))))))
 cases F6
 exact zk [] [] Tryz.results8
 refine zi (zU (zd (za ?_)))
 refine s_mv ?_
 refine zH (zaq C4 B5 hn_g2) ?_
 refine s_as ?_
 refine zf ?_
 exact s_rn (fu,(g2+1)) ⟨by first | omega | (dsimp only;omega),F6,by first | omega | (dsimp only;omega)⟩
 refine zA (zq (zp (zr (zd (zb (za ?_))))))
 refine s_as ?_
 refine zf (zd (zh (zm ?_)))
 cases F3
 exact zk [] [] Tryz.results8
def zh2 (fuel:Nat):Prop:=∀ (x1:(List Int)) (r:((List Bind) × (List Rule) × (List Form) × Form)),zcY fuel x1=some r→AC Tryz.prog 10 [.t (.sl (x1.map rB))] noOb (.tp [.t (.sl (r.1.map Bind.row)),.t (.sl (r.2.1.map Rule.row)),.t (.sl (r.2.2.1.map Form.row)),.ag [.t (.sc (.int .i64 r.2.2.2.kind)),.t (.sc (.str r.2.2.2.name)),.t (.sc (.int .i64 r.2.2.2.n)),.t (.sl (r.2.2.2.scopes.map rI)),.t (.sl (r.2.2.2.kids.map Form.row))]]) noOb
theorem zh1 (fuel:Nat):zh2 fuel:=by
 intro x1 r F0
 unfold zcY at F0
 refine AC_i [.t (.sl (r.1.map Bind.row)),.t (.sl (r.2.1.map Rule.row)),.t (.sl (r.2.2.1.map Form.row)),.ag [.t (.sc (.int .i64 r.2.2.2.kind)),.t (.sc (.str r.2.2.2.name)),.t (.sc (.int .i64 r.2.2.2.n)),.t (.sl (r.2.2.2.scopes.map rI)),.t (.sl (r.2.2.2.kids.map Form.row))]] Tryz.func10 rfl Tryz.ntmps10 ?_
 intro C hC
 refine zb (za ?_)
 iterate 3 refine s_as ?_
 refine z4 yZ32 ?_
 refine zf (zd (zb (za ?_)))
 refine s_mv ?_
 obtain ⟨v1,V1,F1⟩:=zc F0
 refine zL [(9300,2011)] [] _ _ (m_spec_l5Case_ok fuel _ _ V1) ?_
 refine s_mv ?_
 iterate 3 refine zcp ?_
 refine z4 yZ32 ?_
 refine s_as ?_
 refine s_as ?_
 refine zal yS32 ?_
 refine zf (zd (zb ?_))
 refine zZ yMix (by kernel_rfl) ?_
 refine s_bs Bind.row ([]:List Bind) yP30 yR78 ?_
 refine s_mv ?_
 refine s_mv ?_
 refine zI yA32 yS32 ?_
 iterate 3 refine s_as ?_
 refine zal yS32 ?_
 refine zam (by kernel_rfl) ?_
 refine zd (zh (zm ?_))
 cases F1
 exact zag [] [15,2011] (by rw [Tryz.results10];exact (zau (by conv=>lhs;whnf) (zau (by conv=>lhs;whnf) (zau (by conv=>lhs;whnf) (zaE (by conv=>lhs;whnf) (by conv=>lhs;whnf) yA32 yS32 rfl zar)))))
def m_laws_mxIn_AC (fuel:Nat):Prop:=∀ (x1:(List Int)) (x2:Int) (r:Bool),zhf fuel x1 x2=some r→AC Tryz.prog 11 [.t (.sl (x1.map rI)),.t (.sc (.int .i64 x2))] noOb (.t (.sc (.bool r))) noOb
theorem m_laws_mxIn_ok (fuel:Nat):m_laws_mxIn_AC fuel:=by
 intro x1 x2 r F0
 unfold zhf at F0
 refine AC_i [.t (.sc (.bool r))] Tryz.func11 rfl Tryz.ntmps11 ?_
 intro C hC
 refine zb (za ?_)
 refine s_as ?_
 refine zf (zd (zb (zb (za ?_))))
 refine s_as ?_
 refine zf (zd (zl ?_))
 refine zaX (β:=Int) [4,5,6,7,8,9,10,11,12,13,14,15,16,17] [] [] (fun a=>[(5,.t (.sc (.int .i64 a.2)))]) (fun a=>[]) (fun a=>a.1≤fuel∧zdM a.1 x1 x2 a.2=some r∧0≤a.2) (fuel,0) ⟨Nat.le_refl _,F0,by simp⟩ ?_
 clear F0
 rintro ⟨fu,g1⟩ ⟨hl2,F1,hn_g1⟩
 dsimp only at hl2 F1 hn_g1 ⊢
 obtain _ | fu:=fu
 · rw [zdM] at F1;cases F1
 rw [zdM] at F1
 refine zb (zb (za ?_))
 refine s_mv ?_
 refine s_mv ?_
 refine zF yU27 ?_
 refine s_lt ?_
 refine zf (zd ?_)
 refine zn F1 ?_ ?_<;>intro C3 F2
 refine zN 0 (fun B4=>?_)
 refine zi (zd (zb (zl (zb (za ?_)))))
 refine s_mv ?_
 refine s_mv ?_
 obtain ⟨v5,V5,F3⟩:=zc F2
 refine zR rI V5 rfl yE27 ?_
 refine zu yA3 ?_
 refine s_mv ?_
 refine s_eq ?_
 refine zf (zd ?_)
 refine zn F3 ?_ ?_<;>intro C6 F4
 refine zb (za ?_)
 refine s_as ?_
 refine zf (zd (zh (zj (zg (zw (zj (zg (zm ?_))))))))
 cases F4
 exact zk [] [] Tryz.results11
 refine zi (zU (zd (za ?_)))
 refine s_mv ?_
 refine zH (zaq C3 B4 hn_g1) ?_
 refine s_as ?_
 refine zf ?_
 exact s_rn (fu,(g1+1)) ⟨by first | omega | (dsimp only;omega),F4,by first | omega | (dsimp only;omega)⟩
 refine zA (zq (zp (zr (zd (zb (za ?_))))))
 refine s_as ?_
 refine zf (zd (zh (zm ?_)))
 cases F2
 exact zk [] [] Tryz.results11
def m_impl_BindsValid_1_AC (fuel:Nat):Prop:=∀ (x1:Bind) (o1:Bind) (r:Bool),zds fuel x1 o1=some r→AC Tryz.prog 111 [.ag [.t (.sc (.str x1.name)),.t (.sl (x1.scopes.map rI)),.t (.sc (.int .i64 x1.id))],.rf 9000 0] (objs [(9000,.box [.t (.sc (.str o1.name)),.t (.sl (o1.scopes.map rI)),.t (.sc (.int .i64 o1.id))])]) (.t (.sc (.bool r))) (objs [(9000,.box [.t (.sc (.str o1.name)),.t (.sl (o1.scopes.map rI)),.t (.sc (.int .i64 o1.id))])])
theorem m_impl_BindsValid_1_ok (fuel:Nat):m_impl_BindsValid_1_AC fuel:=by
 intro x1 o1 r F0
 unfold zds at F0
 refine AC_i [.t (.sc (.bool r))] Tryz.func111 rfl Tryz.ntmps111 ?_
 intro C hC
 refine zb (za ?_)
 refine za7 ?_
 refine s_as ?_
 refine zf (zd (zb (za ?_)))
 refine s_fa yF78_0 ?_
 refine zu yA9 ?_
 refine s_fa yF78_0 ?_
 refine zu yA9 ?_
 refine zhn ?_
 refine s_mv ?_
 refine zo _ 9 F0 ?_ ?_<;>intro C1 F1
 refine s_fa yF78_1 ?_
 refine zu yA27 ?_
 refine s_fa yF78_1 ?_
 refine zu yA27 ?_
 obtain ⟨v2,V2,F2⟩:=zc F1
 refine zx [] (zgL fuel _ _ _ V2) ?_
 refine zz ?_
 refine s_as ?_
 refine zf (zd (zh (zm ?_)))
 cases F2
 exact zk _ [] Tryz.results111
 iterate 5 refine r_no rfl ?_
 refine zy ?_
 refine s_as ?_
 refine zf (zd (zh (zm ?_)))
 cases F1
 exact zk _ [] Tryz.results111
def zfa (fuel:Nat):Prop:=∀ (x1:(List Bind)) (o1:Bind) (r:Int),za4 fuel x1 o1=some r→AC Tryz.prog 150 [.t (.sl (x1.map Bind.row)),.fn 111 [.rf 9000 0]] (objs [(9000,.box [.t (.sc (.str o1.name)),.t (.sl (o1.scopes.map rI)),.t (.sc (.int .i64 o1.id))])]) (.t (.sc (.int .i64 r))) (objs [(9000,.box [.t (.sc (.str o1.name)),.t (.sl (o1.scopes.map rI)),.t (.sc (.int .i64 o1.id))])])
theorem ze9 (fuel:Nat):zfa fuel:=by
 intro x1 o1 r F0
 unfold za4 at F0
 refine AC_i [.t (.sc (.int .i64 r))] Tryz.func150 rfl Tryz.ntmps150 ?_
 intro C hC
 refine zb (za ?_)
 refine s_as ?_
 refine zf (zd (zb (zb (za ?_))))
 refine s_mv ?_
 refine zF yU30 ?_
 refine s_mv ?_
 refine zf (zd (zl ?_))
 refine zaX (β:=Int) [4,5,8,9,10,11,12,13,14,15,16,17,18] [] [] (fun a=>[(8,.t (.sc (.int .i64 a.2)))]) (fun a=>[]) (fun a=>a.1≤fuel∧zT a.1 x1 o1 a.2=some r∧0≤a.2) (fuel,0) ⟨Nat.le_refl _,F0,by simp⟩ ?_
 clear F0
 rintro ⟨fu,g1⟩ ⟨hl2,F1,hn_g1⟩
 dsimp only at hl2 F1 hn_g1 ⊢
 obtain _ | fu:=fu
 · rw [zT] at F1;cases F1
 rw [zT] at F1
 refine zb (za ?_)
 refine s_lt ?_
 refine zf (zd (zb ?_))
 refine zn F1 ?_ ?_<;>intro C3 F2
 refine zN 0 (fun B4=>?_)
 refine zi (zd (zb (zl (zb (za ?_)))))
 refine s_mv ?_
 refine s_as ?_
 refine zf (zd (zb (za ?_)))
 iterate 3 refine s_mv ?_
 obtain ⟨v5,V5,F3⟩:=zc F2
 refine zR Bind.row V5 (Bind.row_eq _) yE30 ?_
 refine zak yA78 yS78 ?_
 obtain ⟨v6,V6,F4⟩:=zc F3
 refine zL [(9000,9000)] [] _ _ (m_impl_BindsValid_1_ok fu _ _ _ V6) ?_
 refine zf (zd ?_)
 refine zn F4 ?_ ?_<;>intro C7 F5
 refine zb (za ?_)
 refine s_mv ?_
 refine s_as ?_
 refine zf (zd (zh (zj (zg (zw (zj (zg (zm ?_))))))))
 cases F5
 exact zk _ [] Tryz.results150
 refine zi (zU (zd (za ?_)))
 refine zH (zaq C3 B4 hn_g1) ?_
 refine s_mv ?_
 refine zf ?_
 exact s_rn (fu,(g1+1)) ⟨by first | omega | (dsimp only;omega),F5,by first | omega | (dsimp only;omega)⟩
 refine zA (zq (zp (zr (zd (zb (za ?_))))))
 refine s_as ?_
 refine zf (zd (zh (zm ?_)))
 cases F2
 exact zk _ [] Tryz.results150
def zew (fuel:Nat):Prop:=∀ (x1:(List Bind)) (o1:Bind) (r:Bool),zaK fuel x1 o1=some r→AC Tryz.prog 110 [.t (.sl (x1.map Bind.row)),.fn 111 [.rf 9000 0]] (objs [(9000,.box [.t (.sc (.str o1.name)),.t (.sl (o1.scopes.map rI)),.t (.sc (.int .i64 o1.id))])]) (.t (.sc (.bool r))) (objs [(9000,.box [.t (.sc (.str o1.name)),.t (.sl (o1.scopes.map rI)),.t (.sc (.int .i64 o1.id))])])
theorem zev (fuel:Nat):zew fuel:=by
 intro x1 o1 r F0
 unfold zaK at F0
 refine AC_i [.t (.sc (.bool r))] Tryz.func110 rfl Tryz.ntmps110 ?_
 intro C hC
 refine zb (za ?_)
 refine s_as ?_
 refine zf (zd (zb (za ?_)))
 refine s_mv ?_
 refine s_mv ?_
 obtain ⟨v1,V1,F1⟩:=zc F0
 refine zL [(9000,9000)] [] _ _ (ze9 fuel _ _ _ V1) ?_
 refine s_ge ?_
 refine s_as ?_
 refine zf (zd (zh (zm ?_)))
 cases F1
 exact zk _ [] Tryz.results110
def m_impl_BindsValid_AC (fuel:Nat):Prop:=∀ (x1:(List Bind)) (r:Bool),zcA fuel x1=some r→AC Tryz.prog 48 [.t (.sl (x1.map Bind.row))] noOb (.t (.sc (.bool r))) noOb
theorem zfv (fuel:Nat):m_impl_BindsValid_AC fuel:=by
 intro x1 r F0
 unfold zcA at F0
 refine AC_i [.t (.sc (.bool r))] Tryz.func48 rfl Tryz.ntmps48 ?_
 intro C hC
 refine zb (za ?_)
 refine s_as ?_
 refine zf (zd (zb (zb (za ?_))))
 refine s_mv ?_
 refine zF yU30 ?_
 refine s_mv ?_
 refine zf (zd (zl ?_))
 refine zaX (β:=Int) [2,3,4,7,8,9,10,11,12,13,14,15,16,17,18,19,20,21,22,23,24,25,26,27,28,29,30,31,32,33] [] [4] (fun a=>[(7,.t (.sc (.int .i64 a.2)))]) (fun a=>[]) (fun a=>a.1≤fuel∧zbr a.1 x1 a.2=some r∧0≤a.2) (fuel,0) ⟨Nat.le_refl _,F0,by simp⟩ ?_
 clear F0
 rintro ⟨fu,g1⟩ ⟨hl2,F1,hn_g1⟩
 dsimp only at hl2 F1 hn_g1 ⊢
 obtain _ | fu:=fu
 · rw [zbr] at F1;cases F1
 rw [zbr] at F1
 refine zb (za ?_)
 refine s_lt ?_
 refine zf (zd (zb ?_))
 refine zn F1 ?_ ?_<;>intro C3 F2
 refine zN 0 (fun B4=>?_)
 refine zi (zd (zb (zl (zb (za ?_)))))
 refine s_mv ?_
 obtain ⟨v5,V5,F3⟩:=zc F2
 refine zR Bind.row V5 (Bind.row_eq _) yE30 ?_
 refine zak yA78 yS78 ?_
 refine z4 yZ78 ?_
 refine s_as ?_
 refine zal yS78 ?_
 refine zf (zd (zb ?_))
 refine zca (α:=Nat × Bool) [12,13,14,15,16,17,18,19,20,21,22,23,24,25,26,27] [] [] (fun a=>[(27,.t (.sc (.bool a.2)))]) (fun a=>[]) (fun a=>a.1≤fu∧zaZ a.1 x1 g1 v5 a.2=some r) ?_ ?_
 refine za ?_
 refine s_fa yF78_0 ?_
 refine zu yA9 ?_
 obtain ⟨v6,V6,F4⟩:=zc F3
 refine zx [] (zhi fu _ _ V6) ?_
 refine za3 ?_
 refine s_mv ?_
 refine zo _ 16 F4 ?_ ?_<;>intro C7 F5
 iterate 4 refine r_no rfl ?_
 refine zz ?_
 refine s_mv ?_
 iterate 4 refine r_no rfl ?_
 refine zz ?_
 refine zf ?_
 exact s_jn (fu,true) ⟨by first | omega | (dsimp only;omega),F5⟩
 refine s_fa yF78_1 ?_
 refine zu yA27 ?_
 obtain ⟨v8,V8,F6⟩:=zc F5
 refine zx [] (zhw fu _ _ V8) ?_
 refine za3 ?_
 refine zy ?_
 refine s_mv ?_
 refine zo _ 22 F6 ?_ ?_<;>intro C9 F7
 iterate 4 refine r_no rfl ?_
 refine zz ?_
 refine zf ?_
 exact s_jn (fu,true) ⟨by first | omega | (dsimp only;omega),F7⟩
 refine s_fa yF78_2 ?_
 refine zu yA3 ?_
 obtain ⟨v10,V10,F8⟩:=zc F7
 refine zx [] (zex fu _ _ _ _ V10) ?_
 refine za3 ?_
 refine zy ?_
 refine zf ?_
 exact s_jn (fu,(!v10)) ⟨by first | omega | (dsimp only;omega),F8⟩
 clear F3
 rintro ⟨fu,g11⟩ ⟨hl12,F4⟩
 dsimp only at hl12 F4 ⊢
 obtain _ | fu:=fu
 · rw [zaZ] at F4;cases F4
 rw [zaZ] at F4
 refine zn F4 ?_ ?_<;>intro C13 F5
 refine zb (za ?_)
 refine s_as ?_
 refine zf (zd (zh (zg (zj (zg (zw (zj (zg (zm ?_)))))))))
 cases F5
 exact zk [] [] Tryz.results48
 refine zi (zd (zb (za ?_)))
 refine s_mv ?_
 refine s_mv ?_
 obtain ⟨v14,V14,F6⟩:=zc F5
 refine s_sl01 Bind.row (fun y=>Bind.row_len y) V14 yU30 yE30 ?_
 refine s_fn ?_
 obtain ⟨v15,V15,F7⟩:=zc F6
 refine zL [(9000,4)] [] _ _ (zev fu _ _ _ V15) ?_
 refine zf (zd ?_)
 refine zn F7 ?_ ?_<;>intro C16 F8
 refine zb (za ?_)
 refine s_as ?_
 refine zf (zd (zh (zj (zg (zw (zj (zg (zm ?_))))))))
 cases F8
 exact zk [] [] Tryz.results48
 refine zi (zU (zd (za ?_)))
 refine zH (zaq C3 B4 hn_g1) ?_
 refine s_mv ?_
 refine zf ?_
 exact s_rn (fu,(g1+1)) ⟨by first | omega | (dsimp only;omega),F8,by first | omega | (dsimp only;omega)⟩
 refine zA (zq (zp (zr (zd (zb (za ?_))))))
 refine s_mv ?_
 refine zF yU30 ?_
 refine s_le ?_
 refine s_as ?_
 refine zf (zd (zh (zm ?_)))
 cases F2
 exact zk [] [] Tryz.results48
end Go.Abs
