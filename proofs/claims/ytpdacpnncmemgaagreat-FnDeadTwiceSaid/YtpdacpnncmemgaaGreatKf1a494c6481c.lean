/- A part of the proof: what the functions that the law calls answer, as pure values. -/
import Derived.Test.YtpdacpnncmemgaaGreatK63e788fc8be0
import Derived.Test.YtpdacpnncmemgaaGreatK44963eedd702
import Derived.Test.YtpdacpnncmemgaaGreatK8277c4f6323a
import Derived.Test.YtpdacpnncmemgaaGreatKe229a176054d
import Derived.Test.YtpdacpnncmemgaaGreatK5aa89541ad3a
import Derived.Test.YtpdacpnncmemgaaGreatK5e6712fa12dd
import Derived.Test.YtpdacpnncmemgaaGreatKa647db9ee9e6
import Derived.Test.YtpdacpnncmemgaaGreatKfaf2dbb53499
set_option linter.unusedSimpArgs false
set_option linter.unusedVariables false
set_option maxRecDepth 100000
set_option maxHeartbeats 4000000
namespace Go.Abs
open Go.Proofs
theorem m_impl_match_1_st (fu:Nat) (ih_m_impl_match:∀ k,k≤fu→zfe k) (ih_m_impl_match_1:∀ k,k≤fu→zfr k):zfr (fu+1):=by
 intro x1 x2 o1 o2 o3 r F0
 rw [zdb] at F0
 refine AC_i [.t (.sc (.bool r.1))] Tryz.func78 rfl Tryz.ntmps78 ?_
 intro C hC
 refine zb (za ?_)
 refine za7 ?_
 refine za7 ?_
 refine s_as ?_
 refine zf (zd (zb (za ?_)))
 refine zu yA30 ?_
 refine zI yA32 yS32 ?_
 refine zu yA24 ?_
 refine zI yA32 yS32 ?_
 obtain ⟨v1,V1,F1⟩:=zc F0
 refine zx [] (ih_m_impl_match fu (by omega) _ _ _ _ _ V1) ?_
 refine s_mv ?_
 refine zcp ?_
 refine zcp ?_
 refine s_as ?_
 refine s_as ?_
 refine zf (zd (zb (za ?_)))
 refine zu yA42 ?_
 refine s_mv ?_
 obtain ⟨hk2,F2⟩:=zat F1
 refine zfw Hit.row (fun y=>Hit.row_len y) hk2 yP42 ?_
 refine zal yS42 ?_
 refine zf (zd (zb (za ?_)))
 refine s_mv ?_
 refine s_as ?_
 refine zf (zd ?_)
 refine zeP 9002 20 10460 [.ar 10460] ?_
 refine zh (zm ?_)
 cases F2
 exact zk _ [] Tryz.results78
theorem m_impl_match_all (fuel:Nat):zfe fuel∧zfr fuel:=by
 induction fuel using Nat.strongRecOn with
 | _ N ih =>
   cases N with
   | zero=>exact ⟨(by intro x1 x2 x3 x4 r h;rw [zcJ] at h;cases h),(by intro x1 x2 o1 o2 o3 r h;rw [zdb] at h;cases h)⟩
   | succ fu=>exact ⟨m_impl_match_st fu (fun k hk=>(ih k (by omega)).1) (fun k hk=>(ih k (by omega)).2),m_impl_match_1_st fu (fun k hk=>(ih k (by omega)).1) (fun k hk=>(ih k (by omega)).2)⟩
theorem m_impl_match_ok (fuel:Nat):zfe fuel:=(m_impl_match_all fuel).1
def m_impl_FirstRule_AC (fuel:Nat):Prop:=∀ (x1:(List Bind)) (x2:(List Rule)) (x3:(List Form)) (x4:Form) (r:(Int × Bool)),zeD fuel x1 x2 x3 x4=some r→AC Tryz.prog 32 [.t (.sl (x1.map Bind.row)),.t (.sl (x2.map Rule.row)),.t (.sl (x3.map Form.row)),.ag [.t (.sc (.int .i64 x4.kind)),.t (.sc (.str x4.name)),.t (.sc (.int .i64 x4.n)),.t (.sl (x4.scopes.map rI)),.t (.sl (x4.kids.map Form.row))]] noOb (.tp [.t (.sc (.int .i64 r.1)),.t (.sc (.bool r.2))]) noOb
theorem m_impl_FirstRule_ok (fuel:Nat):m_impl_FirstRule_AC fuel:=by
 intro x1 x2 x3 x4 r F0
 unfold zeD at F0
 refine AC_i [.t (.sc (.int .i64 r.1)),.t (.sc (.bool r.2))] Tryz.func32 rfl Tryz.ntmps32 ?_
 intro C hC
 refine zb (za ?_)
 refine za7 ?_
 refine s_as ?_
 refine s_as ?_
 refine zf (zd (zb ?_))
 refine zca (α:=Nat × Bool) [14,15,16,17,18,19,20,21,22,23,24,25,26,27] [] [] (fun a=>[(27,.t (.sc (.bool a.2)))]) (fun a=>[]) (fun a=>a.1≤fuel∧zbi a.1 x1 x2 x3 x4 a.2=some r) ?_ ?_
 refine za ?_
 refine s_mv ?_
 obtain ⟨v1,V1,F1⟩:=zc F0
 refine zx [] (zfv fuel _ _ V1) ?_
 refine za3 ?_
 refine s_mv ?_
 refine zo _ 17 F1 ?_ ?_<;>intro C2 F2
 iterate 4 refine r_no rfl ?_
 refine zz ?_
 refine s_mv ?_
 iterate 3 refine r_no rfl ?_
 refine zz ?_
 refine zf ?_
 exact s_jn (fuel,true) ⟨by first | omega | (dsimp only;omega),F2⟩
 refine s_mv ?_
 refine s_mv ?_
 obtain ⟨v3,V3,F3⟩:=zc F2
 refine zx [] (zhJ fuel _ _ _ V3) ?_
 refine za3 ?_
 refine zy ?_
 refine s_mv ?_
 refine zo _ 23 F3 ?_ ?_<;>intro C4 F4
 iterate 3 refine r_no rfl ?_
 refine zz ?_
 refine zf ?_
 exact s_jn (fuel,true) ⟨by first | omega | (dsimp only;omega),F4⟩
 refine zI yA32 yS32 ?_
 obtain ⟨v5,V5,F5⟩:=zc F4
 refine zx [] (zcz fuel _ _ V5) ?_
 refine za3 ?_
 refine zy ?_
 refine zf ?_
 exact s_jn (fuel,(!v5)) ⟨by first | omega | (dsimp only;omega),F5⟩
 clear F0
 rintro ⟨fu,g6⟩ ⟨hl7,F1⟩
 dsimp only at hl7 F1 ⊢
 obtain _ | fu:=fu
 · rw [zbi] at F1;cases F1
 rw [zbi] at F1
 refine zn F1 ?_ ?_<;>intro C8 F2
 refine zb (za ?_)
 refine s_as ?_
 refine s_as ?_
 refine zf (zd (zh (zg (zm ?_))))
 cases F2
 exact zk [] [] Tryz.results32
 refine zi (zd (zb (zb (za ?_))))
 refine s_mv ?_
 refine zF yU23 ?_
 refine s_mv ?_
 refine zf (zd (zl ?_))
 refine zaX (β:=Int) [8,9,10,11,12,13,30,31,32,33,34,35,36,37,38,39,40,41,42,43,44,45,46] [] [11] (fun a=>[(30,.t (.sc (.int .i64 a.2)))]) (fun a=>[]) (fun a=>a.1≤fu∧zb2 a.1 x1 x2 x3 x4 a.2=some r∧0≤a.2) (fu,0) ⟨Nat.le_refl _,F2,by simp⟩ ?_
 clear F2
 rintro ⟨fu,g9⟩ ⟨hl10,F3,hn_g9⟩
 dsimp only at hl10 F3 hn_g9 ⊢
 obtain _ | fu:=fu
 · rw [zb2] at F3;cases F3
 rw [zb2] at F3
 refine zb (za ?_)
 refine s_lt ?_
 refine zf (zd (zb ?_))
 refine zn F3 ?_ ?_<;>intro C11 F4
 refine zN 1 (fun B12=>?_)
 refine zi (zd (zb (zl (zb (za ?_)))))
 refine s_mv ?_
 obtain ⟨v13,V13,F5⟩:=zc F4
 refine zR Rule.row V13 (Rule.row_eq _) yE23 ?_
 refine zak yA37 yS37 ?_
 refine z4 yZ37 ?_
 refine s_as ?_
 refine zal yS37 ?_
 refine zf (zd (zb (za ?_)))
 refine s_mv ?_
 refine s_fa zhp ?_
 refine zak yA32 yS32 ?_
 refine s_mv ?_
 refine zI yA32 yS32 ?_
 obtain ⟨v14,V14,F6⟩:=zc F5
 refine zx [] (m_impl_match_ok fu _ _ _ _ _ V14) ?_
 refine s_mv ?_
 refine zcp ?_
 refine zcp ?_
 refine s_as ?_
 refine s_as ?_
 refine zf (zd (zb (za ?_)))
 refine s_mv ?_
 refine zf (zd ?_)
 refine zn F6 ?_ ?_<;>intro C15 F7
 refine zb (za ?_)
 refine s_mv ?_
 refine s_as ?_
 refine s_as ?_
 refine zf (zd (zh (zj (zg (zw (zj (zg (zm ?_))))))))
 cases F7
 exact zk [] [] Tryz.results32
 refine zi (zU (zd (za ?_)))
 refine zH (zaq C11 B12 hn_g9) ?_
 refine s_mv ?_
 refine zf ?_
 exact s_rn (fu,(g9+1)) ⟨by first | omega | (dsimp only;omega),F7,by first | omega | (dsimp only;omega)⟩
 refine zA (zq (zp (zr (zd (zb (za ?_))))))
 refine s_as ?_
 refine s_as ?_
 refine zf (zd (zh (zm ?_)))
 cases F4
 exact zk [] [] Tryz.results32
def m_impl_hitVars_AC (fuel:Nat):Prop:=∀ (x1:(List Hit)) (r:((List Form) × (List Int))),zfH fuel x1=some r→AC Tryz.prog 85 [.t (.sl (x1.map Hit.row))] noOb (.tp [.t (.sl (r.1.map Form.row)),.t (.sl (r.2.map rI))]) noOb
theorem m_impl_hitVars_ok (fuel:Nat):m_impl_hitVars_AC fuel:=by
 intro x1 r F0
 unfold zfH at F0
 refine AC_i [.t (.sl (r.1.map Form.row)),.t (.sl (r.2.map rI))] Tryz.func85 rfl Tryz.ntmps85 ?_
 intro C hC
 refine zb (za ?_)
 refine s_as ?_
 refine s_as ?_
 refine zf (zd (zb (za ?_)))
 refine s_bs Form.row ([]:List Form) yP24 yR32 ?_
 refine s_bs rI ([]:List Int) yP27 yR3 ?_
 refine s_as ?_
 refine s_as ?_
 refine zf (zd (zb (zb (za ?_))))
 refine s_mv ?_
 refine zF yU42 ?_
 refine s_mv ?_
 refine zf (zd (zl ?_))
 refine zdf 4 8 5020 (by conv=>lhs;whnf) (by conv=>lhs;whnf) rfl ?_
 refine zdf 5 9 5021 (by conv=>lhs;whnf) (by conv=>lhs;whnf) rfl ?_
 refine zaz [4,5,7,12,13,14,15,16,17,18,19,20,21,22,23,24,25,26] [5020,5021] [7,19,20,24,25] [5020,5021] (fun a:Nat × (List Form) × (List Int) × Int=>a.1) (fun a:Nat × (List Form) × (List Int) × Int=>[(4,.ar 5020),(5,.ar 5021),(12,.t (.sc (.int .i64 a.2.2.2)))]) (fun a:Nat × (List Form) × (List Int) × Int=>[(5020,.arr (a.2.1.map Form.row) 32 true),(5021,.arr (a.2.2.1.map rI) 3 true)]) (fun a:Nat × (List Form) × (List Int) × Int=>a.1≤fuel∧zb7 a.1 x1 a.2.1 a.2.2.1 a.2.2.2=some r∧0≤a.2.2.2) (fuel,([]:List Form),([]:List Int),0) ⟨Nat.le_refl _,F0,by simp⟩ (by rfl) (by rfl) (fun _=>rfl) (zQ (by conv=>lhs;whnf) (by rfl) (zQ (by conv=>lhs;whnf) (by rfl) (zQ (by conv=>lhs;whnf) (by rfl) zbA))) (zV (by conv=>lhs;whnf) (by rfl) (zV (by conv=>lhs;whnf) (by rfl) zbl)) (zcq hC rfl) (by repeat (first | exact zai rfl | refine zax rfl ?_ | refine z8 rfl ?_)) (by repeat (first | exact zaU | exact zan rfl | refine zay rfl ?_ | refine z9 rfl ?_)) ?_
 clear F0
 rintro ⟨fu,g1,g2,g3⟩ ⟨hl4,F1,hn_g3⟩
 dsimp only at hl4 F1 hn_g3 ⊢
 obtain _ | fu:=fu
 · rw [zb7] at F1;cases F1
 rw [zb7] at F1
 refine zb (za ?_)
 refine s_lt ?_
 refine zf (zd (zb ?_))
 refine zn F1 ?_ ?_<;>intro C5 F2
 refine zN 0 (fun B6=>?_)
 refine zi (zd (zb (zl (zb (za ?_)))))
 obtain ⟨v7,V7,F3⟩:=zc F2
 refine zR Hit.row V7 (Hit.row_eq _) yE42 ?_
 refine zak yA55 yS55 ?_
 refine z4 yZ55 ?_
 refine zal yS55 ?_
 refine zf (zd ?_)
 refine zZ yMix (by kernel_rfl) ?_
 refine s_mv ?_
 refine s_fa yF55_0 ?_
 refine zak yA32 yS32 ?_
 refine s_bs Form.row [v7.name] yP24 yR32 ?_
 obtain ⟨hk8,F4⟩:=zat F3
 refine zfw Form.row (fun y=>Form.row_len y) hk8 yP24 ?_
 refine s_mv ?_
 refine s_fa yF55_1 ?_
 refine zu yA3 ?_
 refine s_bs rI [v7.depth] yP27 yR3 ?_
 obtain ⟨hk9,F5⟩:=zat F4
 refine zfw rI (fun _=>rfl) hk9 yP27 ?_
 refine s_as ?_
 refine s_as ?_
 refine zam (by kernel_rfl) ?_
 refine zU (zd (za ?_))
 refine zH (zaq C5 B6 hn_g3) ?_
 refine s_mv ?_
 refine zf ?_
 exact s_rn (fu,(g1++[v7.name]),(g2++[v7.depth]),(g3+1)) ⟨by first | omega | (dsimp only;omega),F5,by first | omega | (dsimp only;omega)⟩ [(5020,20),(5021,25)]
 refine zA (zq (zp (zr (zd (zb (za ?_))))))
 refine s_mv ?_
 refine s_mv ?_
 refine s_as ?_
 refine s_as ?_
 refine zf (zd (zh (zm ?_)))
 cases F2
 exact zk [] [5020,5021] Tryz.results85
def zdo (fuel:Nat):Prop:=∀ (x1:Hit) (r:Bool),zd1 fuel x1=some r→AC Tryz.prog 57 [.ag [.t (.sc (.int .i64 x1.name.kind)),.t (.sc (.str x1.name.name)),.t (.sc (.int .i64 x1.name.n)),.t (.sl (x1.name.scopes.map rI)),.t (.sl (x1.name.kids.map Form.row)),.t (.sc (.int .i64 x1.depth)),.t (.sc (.int .i64 x1.one.kind)),.t (.sc (.str x1.one.name)),.t (.sc (.int .i64 x1.one.n)),.t (.sl (x1.one.scopes.map rI)),.t (.sl (x1.one.kids.map Form.row)),.t (.sl (x1.many.map Hit.row))]] noOb (.t (.sc (.bool r))) noOb
def zdj (fuel:Nat):Prop:=∀ (x1:Hit) (o1:Hit) (r:Bool),zdN fuel x1 o1=some r→AC Tryz.prog 125 [.ag [.t (.sc (.int .i64 x1.name.kind)),.t (.sc (.str x1.name.name)),.t (.sc (.int .i64 x1.name.n)),.t (.sl (x1.name.scopes.map rI)),.t (.sl (x1.name.kids.map Form.row)),.t (.sc (.int .i64 x1.depth)),.t (.sc (.int .i64 x1.one.kind)),.t (.sc (.str x1.one.name)),.t (.sc (.int .i64 x1.one.n)),.t (.sl (x1.one.scopes.map rI)),.t (.sl (x1.one.kids.map Form.row)),.t (.sl (x1.many.map Hit.row))],.rf 9000 0] (objs [(9000,.box [.t (.sc (.int .i64 o1.name.kind)),.t (.sc (.str o1.name.name)),.t (.sc (.int .i64 o1.name.n)),.t (.sl (o1.name.scopes.map rI)),.t (.sl (o1.name.kids.map Form.row)),.t (.sc (.int .i64 o1.depth)),.t (.sc (.int .i64 o1.one.kind)),.t (.sc (.str o1.one.name)),.t (.sc (.int .i64 o1.one.n)),.t (.sl (o1.one.scopes.map rI)),.t (.sl (o1.one.kids.map Form.row)),.t (.sl (o1.many.map Hit.row))])]) (.t (.sc (.bool r))) (objs [(9000,.box [.t (.sc (.int .i64 o1.name.kind)),.t (.sc (.str o1.name.name)),.t (.sc (.int .i64 o1.name.n)),.t (.sl (o1.name.scopes.map rI)),.t (.sl (o1.name.kids.map Form.row)),.t (.sc (.int .i64 o1.depth)),.t (.sc (.int .i64 o1.one.kind)),.t (.sc (.str o1.one.name)),.t (.sc (.int .i64 o1.one.n)),.t (.sl (o1.one.scopes.map rI)),.t (.sl (o1.one.kids.map Form.row)),.t (.sl (o1.many.map Hit.row))])])
def zaj (fuel:Nat):Prop:=∀ (x1:(List Hit)) (o1:Hit) (r:Bool),zaJ fuel x1 o1=some r→AC Tryz.prog 124 [.t (.sl (x1.map Hit.row)),.fn 125 [.rf 9000 0]] (objs [(9000,.box [.t (.sc (.int .i64 o1.name.kind)),.t (.sc (.str o1.name.name)),.t (.sc (.int .i64 o1.name.n)),.t (.sl (o1.name.scopes.map rI)),.t (.sl (o1.name.kids.map Form.row)),.t (.sc (.int .i64 o1.depth)),.t (.sc (.int .i64 o1.one.kind)),.t (.sc (.str o1.one.name)),.t (.sc (.int .i64 o1.one.n)),.t (.sl (o1.one.scopes.map rI)),.t (.sl (o1.one.kids.map Form.row)),.t (.sl (o1.many.map Hit.row))])]) (.t (.sc (.bool r))) (objs [(9000,.box [.t (.sc (.int .i64 o1.name.kind)),.t (.sc (.str o1.name.name)),.t (.sc (.int .i64 o1.name.n)),.t (.sl (o1.name.scopes.map rI)),.t (.sl (o1.name.kids.map Form.row)),.t (.sc (.int .i64 o1.depth)),.t (.sc (.int .i64 o1.one.kind)),.t (.sc (.str o1.one.name)),.t (.sc (.int .i64 o1.one.n)),.t (.sl (o1.one.scopes.map rI)),.t (.sl (o1.one.kids.map Form.row)),.t (.sl (o1.many.map Hit.row))])])
def zas (fuel:Nat):Prop:=∀ (x1:(List Hit)) (o1:Hit) (r:Int),za8 fuel x1 o1=some r→AC Tryz.prog 138 [.t (.sl (x1.map Hit.row)),.fn 125 [.rf 9000 0]] (objs [(9000,.box [.t (.sc (.int .i64 o1.name.kind)),.t (.sc (.str o1.name.name)),.t (.sc (.int .i64 o1.name.n)),.t (.sl (o1.name.scopes.map rI)),.t (.sl (o1.name.kids.map Form.row)),.t (.sc (.int .i64 o1.depth)),.t (.sc (.int .i64 o1.one.kind)),.t (.sc (.str o1.one.name)),.t (.sc (.int .i64 o1.one.n)),.t (.sl (o1.one.scopes.map rI)),.t (.sl (o1.one.kids.map Form.row)),.t (.sl (o1.many.map Hit.row))])]) (.t (.sc (.int .i64 r))) (objs [(9000,.box [.t (.sc (.int .i64 o1.name.kind)),.t (.sc (.str o1.name.name)),.t (.sc (.int .i64 o1.name.n)),.t (.sl (o1.name.scopes.map rI)),.t (.sl (o1.name.kids.map Form.row)),.t (.sc (.int .i64 o1.depth)),.t (.sc (.int .i64 o1.one.kind)),.t (.sc (.str o1.one.name)),.t (.sc (.int .i64 o1.one.n)),.t (.sl (o1.one.scopes.map rI)),.t (.sl (o1.one.kids.map Form.row)),.t (.sl (o1.many.map Hit.row))])])
theorem m_impl_hitOk_st (fu:Nat) (ih_m_impl_hitOk:∀ k,k≤fu→zdo k) (ih_m_impl_hitOk_1:∀ k,k≤fu→zdj k) (ih_m_slices_ContainsFunc_Hit_hitOk_1:∀ k,k≤fu→zaj k) (ih_m_slices_IndexFunc_Hit_hitOk_1:∀ k,k≤fu→zas k):zdo (fu+1):=by
 intro x1 r F0
 rw [zd1] at F0
 refine AC_i [.t (.sc (.bool r))] Tryz.func57 rfl Tryz.ntmps57 ?_
 intro C hC
 refine zb (za ?_)
 refine za7 ?_
 refine s_as ?_
 refine zf (zd (zb (zb (za ?_))))
 refine s_fa yF55_0 ?_
 refine zak yA32 yS32 ?_
 obtain ⟨v1,V1,F1⟩:=zc F0
 refine zx [] (zez fu _ _ V1) ?_
 refine za3 ?_
 refine s_mv ?_
 refine zo _ 7 F1 ?_ ?_<;>intro C2 F2
 iterate 4 refine r_no rfl ?_
 refine zz ?_
 refine s_mv ?_
 iterate 4 refine r_no rfl ?_
 refine zz ?_
 refine s_mv ?_
 iterate 4 refine r_no rfl ?_
 refine zz ?_
 refine zf (zd (zK rfl (zb (za ?_))))
 refine s_as ?_
 refine zf (zd (zh (zg (zm ?_))))
 cases F2
 exact zk [] [] Tryz.results57
 refine s_fa yF55_0 ?_
 refine s_fa zcB ?_
 refine zu yA9 ?_
 refine zhn ?_
 refine zy ?_
 refine s_mv ?_
 refine zo _ 13 F2 ?_ ?_<;>intro C3 F3
 iterate 4 refine r_no rfl ?_
 refine zz ?_
 refine s_mv ?_
 iterate 4 refine r_no rfl ?_
 refine zz ?_
 refine zf (zd (zK rfl (zb (za ?_))))
 refine s_as ?_
 refine zf (zd (zh (zg (zm ?_))))
 cases F3
 exact zk [] [] Tryz.results57
 refine s_fa yF55_0 ?_
 refine s_fa zcB ?_
 refine zu yA9 ?_
 refine zhn ?_
 refine zy ?_
 refine s_mv ?_
 refine zo _ 19 F3 ?_ ?_<;>intro C4 F4
 iterate 4 refine r_no rfl ?_
 refine zz ?_
 refine zf (zd (zK rfl (zb (za ?_))))
 refine s_as ?_
 refine zf (zd (zh (zg (zm ?_))))
 cases F4
 exact zk [] [] Tryz.results57
 refine s_fa yF55_1 ?_
 refine zu yA3 ?_
 obtain ⟨v5,V5,F5⟩:=zc F4
 refine zx [] (zex fu _ _ _ _ V5) ?_
 refine za3 ?_
 refine zy ?_
 refine zf (zd ?_)
 refine zn F5 ?_ ?_<;>intro C6 F6
 refine zb (za ?_)
 refine s_as ?_
 refine zf (zd (zh (zg (zm ?_))))
 cases F6
 exact zk [] [] Tryz.results57
 refine zi (zd (zb (zb (za ?_))))
 refine s_fa yF55_1 ?_
 refine zu yA3 ?_
 refine s_eq ?_
 refine zf (zd ?_)
 refine zn F6 ?_ ?_<;>intro C7 F7
 refine zb (za ?_)
 refine s_fa yF55_2 ?_
 refine zak yA32 yS32 ?_
 obtain ⟨v8,V8,F8⟩:=zc F7
 refine zx [] (zcz fu _ _ V8) ?_
 refine s_mv ?_
 refine zo _ 31 F8 ?_ ?_<;>intro C9 F9
 refine s_fa yF55_3 ?_
 refine zu yA42 ?_
 refine zF yU42 ?_
 refine s_eq ?_
 refine zz ?_
 refine s_as ?_
 refine zf (zd (zh (zg (zm ?_))))
 cases F9
 exact zk [] [] Tryz.results57
 iterate 4 refine r_no rfl ?_
 refine zy ?_
 refine s_as ?_
 refine zf (zd (zh (zg (zm ?_))))
 cases F9
 exact zk [] [] Tryz.results57
 refine zi (zd (zb (za ?_)))
 refine s_fa yF55_2 ?_
 refine zak yA32 yS32 ?_
 refine zgQ yZ32 yL32 ?_
 obtain ⟨v10,V10,F8⟩:=zc F7
 refine zx [] (zbz fu _ _ _ V10) ?_
 refine s_mv ?_
 refine zo _ 41 F8 ?_ ?_<;>intro C11 F9
 refine s_fa yF55_3 ?_
 refine zu yA42 ?_
 refine zF yU42 ?_
 refine s_le ?_
 refine zz ?_
 refine s_mv ?_
 refine zo _ 47 F9 ?_ ?_<;>intro C12 F10
 refine s_fa yF55_3 ?_
 refine zu yA42 ?_
 refine s_fn ?_
 obtain ⟨v13,V13,F11⟩:=zc F10
 refine zL [(9000,1)] [] _ _ (ih_m_slices_ContainsFunc_Hit_hitOk_1 fu (by omega) _ _ _ V13) ?_
 refine za3 ?_
 refine zz ?_
 refine s_as ?_
 refine zf (zd (zh (zm ?_)))
 cases F11
 exact zk [] [] Tryz.results57
 iterate 5 refine r_no rfl ?_
 refine zy ?_
 refine s_as ?_
 refine zf (zd (zh (zm ?_)))
 cases F10
 exact zk [] [] Tryz.results57
 iterate 4 refine r_no rfl ?_
 refine zy ?_
 refine s_mv ?_
 iterate 5 refine r_no rfl ?_
 refine zy ?_
 refine s_as ?_
 refine zf (zd (zh (zm ?_)))
 cases F9
 exact zk [] [] Tryz.results57
theorem m_impl_hitOk_1_st (fu:Nat) (ih_m_impl_hitOk:∀ k,k≤fu→zdo k) (ih_m_impl_hitOk_1:∀ k,k≤fu→zdj k) (ih_m_slices_ContainsFunc_Hit_hitOk_1:∀ k,k≤fu→zaj k) (ih_m_slices_IndexFunc_Hit_hitOk_1:∀ k,k≤fu→zas k):zdj (fu+1):=by
 intro x1 o1 r F0
 rw [zdN] at F0
 refine AC_i [.t (.sc (.bool r))] Tryz.func125 rfl Tryz.ntmps125 ?_
 intro C hC
 refine zb (za ?_)
 refine za7 ?_
 refine s_as ?_
 refine zf (zd (zb (za ?_)))
 refine s_fa yF55_0 ?_
 refine zak yA32 yS32 ?_
 refine s_fa yF55_0 ?_
 refine zak yA32 yS32 ?_
 obtain ⟨v1,V1,F1⟩:=zc F0
 refine zx [] (zbz fu _ _ _ V1) ?_
 refine za3 ?_
 refine s_mv ?_
 refine zo _ 10 F1 ?_ ?_<;>intro C2 F2
 iterate 6 refine r_no rfl ?_
 refine zz ?_
 refine s_mv ?_
 iterate 3 refine r_no rfl ?_
 refine zz ?_
 refine s_as ?_
 refine zf (zd (zh (zm ?_)))
 cases F2
 exact zk _ [] Tryz.results125
 refine s_fa yF55_1 ?_
 refine zu yA3 ?_
 refine s_fa yF55_1 ?_
 refine zu yA3 ?_
 refine s_sub rfl ?_
 refine s_ne ?_
 refine zy ?_
 refine s_mv ?_
 refine zo _ 18 F2 ?_ ?_<;>intro C3 F3
 iterate 3 refine r_no rfl ?_
 refine zz ?_
 refine s_as ?_
 refine zf (zd (zh (zm ?_)))
 cases F3
 exact zk _ [] Tryz.results125
 refine zI yA55 yS55 ?_
 obtain ⟨v4,V4,F4⟩:=zc F3
 refine zx [] (ih_m_impl_hitOk fu (by omega) _ _ V4) ?_
 refine za3 ?_
 refine zy ?_
 refine s_as ?_
 refine zf (zd (zh (zm ?_)))
 cases F4
 exact zk _ [] Tryz.results125
theorem zfE (fu:Nat) (ih_m_impl_hitOk:∀ k,k≤fu→zdo k) (ih_m_impl_hitOk_1:∀ k,k≤fu→zdj k) (ih_m_slices_ContainsFunc_Hit_hitOk_1:∀ k,k≤fu→zaj k) (ih_m_slices_IndexFunc_Hit_hitOk_1:∀ k,k≤fu→zas k):zaj (fu+1):=by
 intro x1 o1 r F0
 rw [zaJ] at F0
 refine AC_i [.t (.sc (.bool r))] Tryz.func124 rfl Tryz.ntmps124 ?_
 intro C hC
 refine zb (za ?_)
 refine s_as ?_
 refine zf (zd (zb (za ?_)))
 refine s_mv ?_
 refine s_mv ?_
 obtain ⟨v1,V1,F1⟩:=zc F0
 refine zL [(9000,9000)] [] _ _ (ih_m_slices_IndexFunc_Hit_hitOk_1 fu (by omega) _ _ _ V1) ?_
 refine s_ge ?_
 refine s_as ?_
 refine zf (zd (zh (zm ?_)))
 cases F1
 exact zk _ [] Tryz.results124
theorem zgh (fu:Nat) (ih_m_impl_hitOk:∀ k,k≤fu→zdo k) (ih_m_impl_hitOk_1:∀ k,k≤fu→zdj k) (ih_m_slices_ContainsFunc_Hit_hitOk_1:∀ k,k≤fu→zaj k) (ih_m_slices_IndexFunc_Hit_hitOk_1:∀ k,k≤fu→zas k):zas (fu+1):=by
 intro x1 o1 r F0
 rw [za8] at F0
 refine AC_i [.t (.sc (.int .i64 r))] Tryz.func138 rfl Tryz.ntmps138 ?_
 intro C hC
 refine zb (za ?_)
 refine s_as ?_
 refine zf (zd (zb (zb (za ?_))))
 refine s_mv ?_
 refine zF yU42 ?_
 refine s_mv ?_
 refine zf (zd (zl ?_))
 refine zaX (β:=Int) [4,5,8,9,10,11,12,13,14,15,16,17,18] [] [] (fun a=>[(8,.t (.sc (.int .i64 a.2)))]) (fun a=>[]) (fun a=>a.1≤fu∧zae a.1 x1 o1 a.2=some r∧0≤a.2) (fu,0) ⟨Nat.le_refl _,F0,by simp⟩ ?_
 clear F0
 rintro ⟨fu,g1⟩ ⟨hl2,F1,hn_g1⟩
 dsimp only at hl2 F1 hn_g1 ⊢
 obtain _ | fu:=fu
 · rw [zae] at F1;cases F1
 rw [zae] at F1
 refine zb (za ?_)
 refine s_lt ?_
 refine zf (zd (zb ?_))
 refine zn F1 ?_ ?_<;>intro C3 F2
 refine zN 0 (fun B4=>?_)
 refine zi (zd (zb (zl (zb (za ?_)))))
 refine s_mv ?_
 refine s_as ?_
 refine zf (zd (zb (za ?_)))
 iterate 3 refine s_mv ?_
 obtain ⟨v5,V5,F3⟩:=zc F2
 refine zR Hit.row V5 (Hit.row_eq _) yE42 ?_
 refine zak yA55 yS55 ?_
 obtain ⟨v6,V6,F4⟩:=zc F3
 refine zL [(9000,9000)] [] _ _ (ih_m_impl_hitOk_1 fu (by omega) _ _ _ V6) ?_
 refine zf (zd ?_)
 refine zn F4 ?_ ?_<;>intro C7 F5
 refine zb (za ?_)
 refine s_mv ?_
 refine s_as ?_
 refine zf (zd (zh (zj (zg (zw (zj (zg (zm ?_))))))))
 cases F5
 exact zk _ [] Tryz.results138
 refine zi (zU (zd (za ?_)))
 refine zH (zaq C3 B4 hn_g1) ?_
 refine s_mv ?_
 refine zf ?_
 exact s_rn (fu,(g1+1)) ⟨by first | omega | (dsimp only;omega),F5,by first | omega | (dsimp only;omega)⟩
 refine zA (zq (zp (zr (zd (zb (za ?_))))))
 refine s_as ?_
 refine zf (zd (zh (zm ?_)))
 cases F2
 exact zk _ [] Tryz.results138
theorem m_impl_hitOk_all (fuel:Nat):zdo fuel∧zdj fuel∧zaj fuel∧zas fuel:=by
 induction fuel using Nat.strongRecOn with
 | _ N ih =>
   cases N with
   | zero=>exact ⟨(by intro x1 r h;rw [zd1] at h;cases h),(by intro x1 o1 r h;rw [zdN] at h;cases h),(by intro x1 o1 r h;rw [zaJ] at h;cases h),(by intro x1 o1 r h;rw [za8] at h;cases h)⟩
   | succ fu=>exact ⟨m_impl_hitOk_st fu (fun k hk=>(ih k (by omega)).1) (fun k hk=>(ih k (by omega)).2.1) (fun k hk=>(ih k (by omega)).2.2.1) (fun k hk=>(ih k (by omega)).2.2.2),m_impl_hitOk_1_st fu (fun k hk=>(ih k (by omega)).1) (fun k hk=>(ih k (by omega)).2.1) (fun k hk=>(ih k (by omega)).2.2.1) (fun k hk=>(ih k (by omega)).2.2.2),zfE fu (fun k hk=>(ih k (by omega)).1) (fun k hk=>(ih k (by omega)).2.1) (fun k hk=>(ih k (by omega)).2.2.1) (fun k hk=>(ih k (by omega)).2.2.2),zgh fu (fun k hk=>(ih k (by omega)).1) (fun k hk=>(ih k (by omega)).2.1) (fun k hk=>(ih k (by omega)).2.2.1) (fun k hk=>(ih k (by omega)).2.2.2)⟩
theorem m_impl_hitOk_ok (fuel:Nat):zdo fuel:=(m_impl_hitOk_all fuel).1
def m_impl_hitAt_1_AC (fuel:Nat):Prop:=∀ (x1:Hit) (o1:Form) (r:Bool),zdO fuel x1 o1=some r→AC Tryz.prog 139 [.ag [.t (.sc (.int .i64 x1.name.kind)),.t (.sc (.str x1.name.name)),.t (.sc (.int .i64 x1.name.n)),.t (.sl (x1.name.scopes.map rI)),.t (.sl (x1.name.kids.map Form.row)),.t (.sc (.int .i64 x1.depth)),.t (.sc (.int .i64 x1.one.kind)),.t (.sc (.str x1.one.name)),.t (.sc (.int .i64 x1.one.n)),.t (.sl (x1.one.scopes.map rI)),.t (.sl (x1.one.kids.map Form.row)),.t (.sl (x1.many.map Hit.row))],.rf 9000 0] (objs [(9000,.box [.t (.sc (.int .i64 o1.kind)),.t (.sc (.str o1.name)),.t (.sc (.int .i64 o1.n)),.t (.sl (o1.scopes.map rI)),.t (.sl (o1.kids.map Form.row))])]) (.t (.sc (.bool r))) (objs [(9000,.box [.t (.sc (.int .i64 o1.kind)),.t (.sc (.str o1.name)),.t (.sc (.int .i64 o1.n)),.t (.sl (o1.scopes.map rI)),.t (.sl (o1.kids.map Form.row))])])
theorem m_impl_hitAt_1_ok (fuel:Nat):m_impl_hitAt_1_AC fuel:=by
 intro x1 o1 r F0
 unfold zdO at F0
 refine AC_i [.t (.sc (.bool r))] Tryz.func139 rfl Tryz.ntmps139 ?_
 intro C hC
 refine zb (za ?_)
 refine za7 ?_
 refine s_as ?_
 refine zf (zd (zb (za ?_)))
 refine s_fa yF55_0 ?_
 refine zak yA32 yS32 ?_
 refine zI yA32 yS32 ?_
 obtain ⟨v1,V1,F1⟩:=zc F0
 refine zx [] (zbz fuel _ _ _ V1) ?_
 refine s_as ?_
 refine zf (zd (zh (zm ?_)))
 cases F1
 exact zk _ [] Tryz.results139
def zgj (fuel:Nat):Prop:=∀ (x1:(List Hit)) (o1:Form) (r:Int),za9 fuel x1 o1=some r→AC Tryz.prog 138 [.t (.sl (x1.map Hit.row)),.fn 139 [.rf 9000 0]] (objs [(9000,.box [.t (.sc (.int .i64 o1.kind)),.t (.sc (.str o1.name)),.t (.sc (.int .i64 o1.n)),.t (.sl (o1.scopes.map rI)),.t (.sl (o1.kids.map Form.row))])]) (.t (.sc (.int .i64 r))) (objs [(9000,.box [.t (.sc (.int .i64 o1.kind)),.t (.sc (.str o1.name)),.t (.sc (.int .i64 o1.n)),.t (.sl (o1.scopes.map rI)),.t (.sl (o1.kids.map Form.row))])])
theorem zgi (fuel:Nat):zgj fuel:=by
 intro x1 o1 r F0
 unfold za9 at F0
 refine AC_i [.t (.sc (.int .i64 r))] Tryz.func138 rfl Tryz.ntmps138 ?_
 intro C hC
 refine zb (za ?_)
 refine s_as ?_
 refine zf (zd (zb (zb (za ?_))))
 refine s_mv ?_
 refine zF yU42 ?_
 refine s_mv ?_
 refine zf (zd (zl ?_))
 refine zaX (β:=Int) [4,5,8,9,10,11,12,13,14,15,16,17,18] [] [] (fun a=>[(8,.t (.sc (.int .i64 a.2)))]) (fun a=>[]) (fun a=>a.1≤fuel∧zO a.1 x1 o1 a.2=some r∧0≤a.2) (fuel,0) ⟨Nat.le_refl _,F0,by simp⟩ ?_
 clear F0
 rintro ⟨fu,g1⟩ ⟨hl2,F1,hn_g1⟩
 dsimp only at hl2 F1 hn_g1 ⊢
 obtain _ | fu:=fu
 · rw [zO] at F1;cases F1
 rw [zO] at F1
 refine zb (za ?_)
 refine s_lt ?_
 refine zf (zd (zb ?_))
 refine zn F1 ?_ ?_<;>intro C3 F2
 refine zN 0 (fun B4=>?_)
 refine zi (zd (zb (zl (zb (za ?_)))))
 refine s_mv ?_
 refine s_as ?_
 refine zf (zd (zb (za ?_)))
 iterate 3 refine s_mv ?_
 obtain ⟨v5,V5,F3⟩:=zc F2
 refine zR Hit.row V5 (Hit.row_eq _) yE42 ?_
 refine zak yA55 yS55 ?_
 obtain ⟨v6,V6,F4⟩:=zc F3
 refine zL [(9000,9000)] [] _ _ (m_impl_hitAt_1_ok fu _ _ _ V6) ?_
 refine zf (zd ?_)
 refine zn F4 ?_ ?_<;>intro C7 F5
 refine zb (za ?_)
 refine s_mv ?_
 refine s_as ?_
 refine zf (zd (zh (zj (zg (zw (zj (zg (zm ?_))))))))
 cases F5
 exact zk _ [] Tryz.results138
 refine zi (zU (zd (za ?_)))
 refine zH (zaq C3 B4 hn_g1) ?_
 refine s_mv ?_
 refine zf ?_
 exact s_rn (fu,(g1+1)) ⟨by first | omega | (dsimp only;omega),F5,by first | omega | (dsimp only;omega)⟩
 refine zA (zq (zp (zr (zd (zb (za ?_))))))
 refine s_as ?_
 refine zf (zd (zh (zm ?_)))
 cases F2
 exact zk _ [] Tryz.results138
def m_impl_hitAt_AC (fuel:Nat):Prop:=∀ (x1:(List Hit)) (x2:Form) (r:Int),zfg fuel x1 x2=some r→AC Tryz.prog 88 [.t (.sl (x1.map Hit.row)),.ag [.t (.sc (.int .i64 x2.kind)),.t (.sc (.str x2.name)),.t (.sc (.int .i64 x2.n)),.t (.sl (x2.scopes.map rI)),.t (.sl (x2.kids.map Form.row))]] noOb (.t (.sc (.int .i64 r))) noOb
theorem m_impl_hitAt_ok (fuel:Nat):m_impl_hitAt_AC fuel:=by
 intro x1 x2 r F0
 unfold zfg at F0
 refine AC_i [.t (.sc (.int .i64 r))] Tryz.func88 rfl Tryz.ntmps88 ?_
 intro C hC
 refine zb (za ?_)
 refine za7 ?_
 refine s_as ?_
 refine zf (zd (zb (za ?_)))
 refine s_mv ?_
 refine s_fn ?_
 obtain ⟨v1,V1,F1⟩:=zc F0
 refine zL [(9000,3)] [] _ _ (zgi fuel _ _ _ V1) ?_
 refine s_as ?_
 refine zf (zd (zh (zm ?_)))
 cases F1
 exact zk [] [] Tryz.results88
def m_impl_HitsValid_AC (fuel:Nat):Prop:=∀ (x1:(List Hit)) (r:Bool),zeC fuel x1=some r→AC Tryz.prog 86 [.t (.sl (x1.map Hit.row))] noOb (.t (.sc (.bool r))) noOb
theorem m_impl_HitsValid_ok (fuel:Nat):m_impl_HitsValid_AC fuel:=by
 intro x1 r F0
 unfold zeC at F0
 refine AC_i [.t (.sc (.bool r))] Tryz.func86 rfl Tryz.ntmps86 ?_
 intro C hC
 refine zb (za ?_)
 refine s_as ?_
 refine zf (zd (zb (zb (za ?_))))
 refine s_mv ?_
 refine zF yU42 ?_
 refine s_mv ?_
 refine zf (zd (zl ?_))
 refine zaX (β:=Int) [2,3,4,7,8,9,10,11,12,13,14,15,16,17,18,19,20,21,22,23,24] [] [4] (fun a=>[(7,.t (.sc (.int .i64 a.2)))]) (fun a=>[]) (fun a=>a.1≤fuel∧zbI a.1 x1 a.2=some r∧0≤a.2) (fuel,0) ⟨Nat.le_refl _,F0,by simp⟩ ?_
 clear F0
 rintro ⟨fu,g1⟩ ⟨hl2,F1,hn_g1⟩
 dsimp only at hl2 F1 hn_g1 ⊢
 obtain _ | fu:=fu
 · rw [zbI] at F1;cases F1
 rw [zbI] at F1
 refine zb (za ?_)
 refine s_lt ?_
 refine zf (zd (zb ?_))
 refine zn F1 ?_ ?_<;>intro C3 F2
 refine zN 0 (fun B4=>?_)
 refine zi (zd (zb (zl (zb (za ?_)))))
 refine s_mv ?_
 obtain ⟨v5,V5,F3⟩:=zc F2
 refine zR Hit.row V5 (Hit.row_eq _) yE42 ?_
 refine zak yA55 yS55 ?_
 refine z4 yZ55 ?_
 refine s_as ?_
 refine zal yS55 ?_
 refine zf (zd (zb ?_))
 refine zZ yMix (by kernel_rfl) ?_
 refine zI yA55 yS55 ?_
 obtain ⟨v6,V6,F4⟩:=zc F3
 refine zx [] (m_impl_hitOk_ok fu _ _ V6) ?_
 refine za3 ?_
 refine s_mv ?_
 refine zo _ 15 F4 ?_ ?_<;>intro C7 F5
 iterate 7 refine r_no rfl ?_
 refine zz ?_
 refine zam (by kernel_rfl) ?_
 refine zd (zK rfl (zb (za ?_)))
 refine s_as ?_
 refine zf (zd (zh (zj (zg (zw (zj (zg (zm ?_))))))))
 cases F5
 exact zk [] [] Tryz.results86
 refine s_mv ?_
 refine s_mv ?_
 obtain ⟨v8,V8,F6⟩:=zc F5
 refine s_sl01 Hit.row (fun y=>Hit.row_len y) V8 yU42 yE42 ?_
 refine s_fa yF55_0 ?_
 refine zak yA32 yS32 ?_
 obtain ⟨v9,V9,F7⟩:=zc F6
 refine zx [] (m_impl_hitAt_ok fu _ _ _ V9) ?_
 refine s_ge ?_
 refine zy ?_
 refine zam (by kernel_rfl) ?_
 refine zd ?_
 refine zn F7 ?_ ?_<;>intro C10 F8
 refine zb (za ?_)
 refine s_as ?_
 refine zf (zd (zh (zj (zg (zw (zj (zg (zm ?_))))))))
 cases F8
 exact zk [] [] Tryz.results86
 refine zi (zU (zd (za ?_)))
 refine zH (zaq C3 B4 hn_g1) ?_
 refine s_mv ?_
 refine zf ?_
 exact s_rn (fu,(g1+1)) ⟨by first | omega | (dsimp only;omega),F8,by first | omega | (dsimp only;omega)⟩
 refine zA (zq (zp (zr (zd (zb (za ?_))))))
 refine s_mv ?_
 refine zF yU42 ?_
 refine s_le ?_
 refine s_as ?_
 refine zf (zd (zh (zm ?_)))
 cases F2
 exact zk [] [] Tryz.results86
def zh6 (fuel:Nat):Prop:=∀ (x1:Form) (x2:(List Hit)) (r:Bool),zc0 fuel x1 x2=some r→AC Tryz.prog 37 [.ag [.t (.sc (.int .i64 x1.kind)),.t (.sc (.str x1.name)),.t (.sc (.int .i64 x1.n)),.t (.sl (x1.scopes.map rI)),.t (.sl (x1.kids.map Form.row))],.t (.sl (x2.map Hit.row))] noOb (.t (.sc (.bool r))) noOb
theorem zh5 (fuel:Nat):zh6 fuel:=by
 intro x1 x2 r F0
 unfold zc0 at F0
 refine AC_i [.t (.sc (.bool r))] Tryz.func37 rfl Tryz.ntmps37 ?_
 intro C hC
 refine zb (za ?_)
 refine za7 ?_
 refine s_as ?_
 refine zf (zd (zb (za ?_)))
 refine s_mv ?_
 obtain ⟨v1,V1,F1⟩:=zc F0
 refine zx [] (m_impl_hitVars_ok fuel _ _ V1) ?_
 refine s_mv ?_
 refine zcp ?_
 refine zcp ?_
 refine s_as ?_
 refine s_as ?_
 refine zf (zd (zb (za ?_)))
 refine s_mv ?_
 obtain ⟨v2,V2,F2⟩:=zc F1
 refine zx [] (m_impl_HitsValid_ok fuel _ _ V2) ?_
 refine s_mv ?_
 refine zo _ 14 F2 ?_ ?_<;>intro C3 F3
 refine zI yA32 yS32 ?_
 refine s_mv ?_
 refine s_mv ?_
 obtain ⟨v4,V4,F4⟩:=zc F3
 refine zx [] (zgY fuel _ _ _ _ V4) ?_
 refine zz ?_
 refine s_as ?_
 refine zf (zd (zh (zm ?_)))
 cases F4
 exact zk [] [] Tryz.results37
 iterate 4 refine r_no rfl ?_
 refine zy ?_
 refine s_as ?_
 refine zf (zd (zh (zm ?_)))
 cases F3
 exact zk [] [] Tryz.results37
def zeZ (fuel:Nat):Prop:=∀ (x1:Form) (r:Int),zcM fuel x1=some r→AC Tryz.prog 90 [.ag [.t (.sc (.int .i64 x1.kind)),.t (.sc (.str x1.name)),.t (.sc (.int .i64 x1.n)),.t (.sl (x1.scopes.map rI)),.t (.sl (x1.kids.map Form.row))]] noOb (.t (.sc (.int .i64 r))) noOb
theorem m_impl_FormSize_st (fu:Nat) (ih_m_impl_FormSize:∀ k,k≤fu→zeZ k):zeZ (fu+1):=by
 intro x1 r F0
 rw [zcM] at F0
 refine AC_i [.t (.sc (.int .i64 r))] Tryz.func90 rfl Tryz.ntmps90 ?_
 intro C hC
 refine zb (za ?_)
 refine za7 ?_
 refine s_as ?_
 refine zf (zd (zb (za ?_)))
 refine s_as ?_
 refine zf (zd (zb (zb (za ?_))))
 refine s_fa zD ?_
 refine zu yA24 ?_
 refine zF yU24 ?_
 refine s_mv ?_
 refine zf (zd (zl ?_))
 refine zaX (β:=Int × Int) [3,5,9,10,11,12,13,14,15,16,17] [] [5] (fun a=>[(3,.t (.sc (.int .i64 a.2.1))),(9,.t (.sc (.int .i64 a.2.2)))]) (fun a=>[]) (fun a=>a.1≤fu∧zbT a.1 x1 a.2.1 a.2.2=some r∧0≤a.2.2) (fu,1,0) ⟨Nat.le_refl _,F0,by simp⟩ ?_
 clear F0
 rintro ⟨fu,g1,g2⟩ ⟨hl3,F1,hn_g2⟩
 dsimp only at hl3 F1 hn_g2 ⊢
 obtain _ | fu:=fu
 · rw [zbT] at F1;cases F1
 rw [zbT] at F1
 refine zb (za ?_)
 refine s_lt ?_
 refine zf (zd (zb ?_))
 refine zn F1 ?_ ?_<;>intro C4 F2
 refine zN 7 (fun B5=>?_)
 refine zi (zd (zb (zl (zb (za ?_)))))
 obtain ⟨v6,V6,F3⟩:=zc F2
 refine zR Form.row V6 (Form.row_eq _) yE24 ?_
 refine zak yA32 yS32 ?_
 refine z4 yZ32 ?_
 refine zal yS32 ?_
 refine zf (zd (za ?_))
 refine s_mv ?_
 refine zI yA32 yS32 ?_
 obtain ⟨v7,V7,F4⟩:=zc F3
 refine zx [] (ih_m_impl_FormSize fu (by omega) _ _ V7) ?_
 refine zH rfl ?_
 refine s_as ?_
 refine zf (zU (zd (za ?_)))
 refine zH (zaq C4 B5 hn_g2) ?_
 refine s_mv ?_
 refine zf ?_
 exact s_rn (fu,(w64 (g1+v7)),(g2+1)) ⟨by first | omega | (dsimp only;omega),F4,by first | omega | (dsimp only;omega)⟩
 refine zA (zq (zp (zr (zd (zb (za ?_))))))
 refine s_mv ?_
 refine s_as ?_
 refine zf (zd (zh (zm ?_)))
 cases F2
 exact zk [] [] Tryz.results90
theorem m_impl_FormSize_all (fuel:Nat):zeZ fuel:=by
 induction fuel using Nat.strongRecOn with
 | _ N ih =>
   cases N with
   | zero=>exact (by intro x1 r h;rw [zcM] at h;cases h)
   | succ fu=>exact m_impl_FormSize_st fu (fun k hk=>(ih k (by omega)))
theorem m_impl_FormSize_ok (fuel:Nat):zeZ fuel:=(m_impl_FormSize_all fuel)
def m_impl_fill_2_AC (fuel:Nat):Prop:=∀ (x1:Form) (o1:Bool) (o2:Hit) (r:Bool),zg5 fuel x1 o1 o2=some r→AC Tryz.prog 92 [.ag [.t (.sc (.int .i64 x1.kind)),.t (.sc (.str x1.name)),.t (.sc (.int .i64 x1.n)),.t (.sl (x1.scopes.map rI)),.t (.sl (x1.kids.map Form.row))],.rf 9000 0,.rf 9001 0] (objs [(9000,.box [.t (.sc (.bool o1))]),(9001,.box [.t (.sc (.int .i64 o2.name.kind)),.t (.sc (.str o2.name.name)),.t (.sc (.int .i64 o2.name.n)),.t (.sl (o2.name.scopes.map rI)),.t (.sl (o2.name.kids.map Form.row)),.t (.sc (.int .i64 o2.depth)),.t (.sc (.int .i64 o2.one.kind)),.t (.sc (.str o2.one.name)),.t (.sc (.int .i64 o2.one.n)),.t (.sl (o2.one.scopes.map rI)),.t (.sl (o2.one.kids.map Form.row)),.t (.sl (o2.many.map Hit.row))])]) (.tp []) (objs [(9000,.box [.t (.sc (.bool r))]),(9001,.box [.t (.sc (.int .i64 o2.name.kind)),.t (.sc (.str o2.name.name)),.t (.sc (.int .i64 o2.name.n)),.t (.sl (o2.name.scopes.map rI)),.t (.sl (o2.name.kids.map Form.row)),.t (.sc (.int .i64 o2.depth)),.t (.sc (.int .i64 o2.one.kind)),.t (.sc (.str o2.one.name)),.t (.sc (.int .i64 o2.one.n)),.t (.sl (o2.one.scopes.map rI)),.t (.sl (o2.one.kids.map Form.row)),.t (.sl (o2.many.map Hit.row))])])
theorem m_impl_fill_2_ok (fuel:Nat):m_impl_fill_2_AC fuel:=by
 intro x1 o1 o2 r F0
 unfold zg5 at F0
 refine AC_i [] Tryz.func92 rfl Tryz.ntmps92 ?_
 intro C hC
 refine zb (za ?_)
 refine za7 ?_
 refine zf (zd (za ?_))
 refine zu yA4 ?_
 refine s_mv ?_
 refine zo _ 5 F0 ?_ ?_<;>intro C1 F1
 iterate 4 refine r_no rfl ?_
 refine zz ?_
 refine zal yS4 ?_
 refine zf (zgN ?_)
 cases F1
 exact zk _ [] Tryz.results92
 refine zI yA32 yS32 ?_
 refine s_fa yF55_0 ?_
 refine zak yA32 yS32 ?_
 obtain ⟨v2,V2,F2⟩:=zc F1
 refine zx [] (zbz fuel _ _ _ V2) ?_
 refine zy ?_
 refine zal yS4 ?_
 refine zf (zgN ?_)
 cases F2
 exact zk _ [] Tryz.results92
end Go.Abs
