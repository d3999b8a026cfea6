/- A part of the proof: what the functions that the law calls answer, as pure values. -/
import Derived.Test.YtcebadpiebamdaaGreatK006dda84d553
import Derived.Test.YtcebadpiebamdaaGreatK863b9396a6d1
import Derived.Test.YtcebadpiebamdaaGreatK4288d3e3b386
import Derived.Test.YtcebadpiebamdaaGreatKa0dd8db6698e
import Derived.Test.YtcebadpiebamdaaGreatK2962c8d0e5be
import Derived.Test.YtcebadpiebamdaaGreatK9fbfde43654d
import Derived.Test.YtcebadpiebamdaaGreatKc219dfa2b982
import Derived.Test.YtcebadpiebamdaaGreatK0c09c3f6594f
set_option linter.unusedSimpArgs false
set_option linter.unusedVariables false
set_option maxRecDepth 100000
set_option maxHeartbeats 4000000
namespace Go.Abs
open Go.Proofs
theorem m_impl_match_1_D_all (fuel:Nat):zdZ fuel∧zdL fuel:=by
 induction fuel using Nat.strongRecOn with
 | _ N ih =>
   cases N with
   | zero=>exact ⟨(by intro x1 x2 o1 o2 o3 r h;rw [zbU] at h;cases h),(by intro x1 x2 x3 x4 r h;rw [zcg] at h;cases h)⟩
   | succ fu=>exact ⟨m_impl_match_1_D_st fu (fun k hk=>(ih k (by omega)).1) (fun k hk=>(ih k (by omega)).2),m_impl_match_D_st fu (fun k hk=>(ih k (by omega)).1) (fun k hk=>(ih k (by omega)).2)⟩
theorem m_impl_match_D_ok (fuel:Nat):zdL fuel:=(m_impl_match_1_D_all fuel).2
def zg9 (fuel:Nat):Prop:=∀ (x1:(List Bind)) (x2:Form) (x3:(List Form)) (x4:Form) (r:((List Hit) × Bool)),zan fuel x1 x2 x3 x4=some r→AC Tryz.prog 13 [.t (.sl (x1.map Bind.row)),.ag [.t (.sc (.int .i64 x2.kind)),.t (.sc (.str x2.name)),.t (.sc (.int .i64 x2.n)),.t (.sl (x2.scopes.map rI)),.t (.sl (x2.kids.map Form.row))],.t (.sl (x3.map Form.row)),.ag [.t (.sc (.int .i64 x4.kind)),.t (.sc (.str x4.name)),.t (.sc (.int .i64 x4.n)),.t (.sl (x4.scopes.map rI)),.t (.sl (x4.kids.map Form.row))]] (objs []) (.tp [.ar 9200,.t (.sc (.bool r.2))]) (objs [(9200,.dar (r.1.map (Hit.rowD 3 37 88)) 88)])
theorem zg8 (fuel:Nat):zg9 fuel:=by
 intro x1 x2 x3 x4 r F0
 unfold zan at F0
 refine AC_i [.ar 9200,.t (.sc (.bool r.2))] Tryz.func13 rfl Tryz.ntmps13 ?_
 intro C hC
 refine zb (za ?_)
 refine zbo ?_
 refine zbo ?_
 refine s_as ?_
 refine s_as ?_
 refine zf (zd (zb ?_))
 refine zdr (α:=Nat × Bool) [12,13,14,15,16,17,18,19,20,21,22,23,24,25] [] [] (fun a=>[(25,.t (.sc (.bool a.2)))]) (fun a=>[]) (fun a=>a.1≤fuel∧zF a.1 x1 x2 x3 x4 a.2=some r) ?_ ?_
 refine za ?_
 refine s_mv ?_
 obtain ⟨v1,V1,F1⟩:=zc F0
 refine zy [] (zdz fuel _ _ V1) ?_
 refine zbh ?_
 refine s_mv ?_
 refine zx _ 15 F1 ?_ ?_<;>intro C2 F2
 iterate 4 refine r_no rfl ?_
 refine zC ?_
 refine s_mv ?_
 iterate 3 refine r_no rfl ?_
 refine zC ?_
 refine zf ?_
 exact s_jn (fuel,true) ⟨by first | omega | (dsimp only;omega),F2⟩
 refine z6 yA37 yS37 ?_
 refine s_mv ?_
 obtain ⟨v3,V3,F3⟩:=zc F2
 refine zy [] (zfK fuel _ _ _ V3) ?_
 refine zbh ?_
 refine zD ?_
 refine s_mv ?_
 refine zx _ 21 F3 ?_ ?_<;>intro C4 F4
 iterate 3 refine r_no rfl ?_
 refine zC ?_
 refine zf ?_
 exact s_jn (fuel,true) ⟨by first | omega | (dsimp only;omega),F4⟩
 refine z6 yA37 yS37 ?_
 obtain ⟨v5,V5,F5⟩:=zc F4
 refine zy [] (zd2 fuel _ _ V5) ?_
 refine zbh ?_
 refine zD ?_
 refine zf ?_
 exact s_jn (fuel,(!v5)) ⟨by first | omega | (dsimp only;omega),F5⟩
 clear F0
 rintro ⟨fu,g6⟩ ⟨hl7,F1⟩
 dsimp only at hl7 F1 ⊢
 obtain _ | fu:=fu
 · rw [zF] at F1;cases F1
 rw [zF] at F1
 refine zn F1 ?_ ?_<;>intro C8 F2
 refine zb (za ?_)
 refine s_as ?_
 refine s_as ?_
 refine zf (zd ?_)
 refine zfT 8 9200 88 yI88.choose_spec ?_
 refine zeN 9200 (Hit.rowD 3 37 88) (es:=([]:List Hit).map Hit.row) (by (conv=>lhs;whnf)<;>rfl) rfl ?_
 refine zh (zg (zo ?_))
 cases F2
 exact zk _ [] Tryz.results13
 refine zi (zd (zb (za ?_)))
 refine s_mv ?_
 refine z6 yA37 yS37 ?_
 refine s_mv ?_
 refine z6 yA37 yS37 ?_
 obtain ⟨v9,V9,F3⟩:=zc F2
 refine zT [(9200,2031)] [] _ _ (m_impl_match_D_ok fu _ _ _ _ _ V9) ?_
 refine s_mv ?_
 refine zdv ?_
 refine zdv ?_
 refine s_as ?_
 refine s_as ?_
 refine zf (zd (zb (zb (za ?_))))
 refine s_mv ?_
 refine zbh ?_
 refine zf (zd ?_)
 refine zn F3 ?_ ?_<;>intro C10 F4
 refine zb (za ?_)
 refine s_as ?_
 refine s_as ?_
 refine zf (zd ?_)
 refine zfT 8 9200 88 yI88.choose_spec ?_
 refine zeN 9200 (Hit.rowD 3 37 88) (es:=([]:List Hit).map Hit.row) (by (conv=>lhs;whnf)<;>rfl) rfl ?_
 refine zh (zg (zo ?_))
 cases F4
 exact zk _ [] Tryz.results13
 refine zi (zd (zb (za ?_)))
 refine s_mv ?_
 refine s_as ?_
 refine s_as ?_
 refine zf (zd ?_)
 refine awp_mvD 8 2031 9200 (by conv=>lhs;whnf) (by conv=>lhs;whnf) rfl ?_
 refine zh (zo ?_)
 cases F4
 exact zk _ [] Tryz.results13
def m_laws_eqIntS_AC (fuel:Nat):Prop:=∀ (x1:(List Int)) (x2:(List Int)) (r:Bool),zeI fuel x1 x2=some r→AC Tryz.prog 54 [.t (.sl (x1.map rI)),.t (.sl (x2.map rI))] noOb (.t (.sc (.bool r))) noOb
theorem m_laws_eqIntS_ok (fuel:Nat):m_laws_eqIntS_AC fuel:=by
 intro x1 x2 r F0
 unfold zeI at F0
 refine AC_i [.t (.sc (.bool r))] Tryz.func54 rfl Tryz.ntmps54 ?_
 intro C hC
 refine zb (za ?_)
 refine s_as ?_
 refine zf (zd (zb (zb (za ?_))))
 refine s_mv ?_
 refine zB yU23 ?_
 refine s_mv ?_
 refine zB yU23 ?_
 refine s_ne ?_
 refine zf (zd ?_)
 refine zn F0 ?_ ?_<;>intro C1 F1
 refine zb (za ?_)
 refine s_as ?_
 refine zf (zd (zh (zg (zo ?_))))
 cases F1
 exact zk [] [] Tryz.results54
 refine zi (zd (zb (zb (za ?_))))
 refine s_as ?_
 refine zf (zd (zl ?_))
 refine zaE (β:=Int) [4,5,11,12,13,14,15,16,17,18,19,20,21,22,23,24,25] [] [] (fun a=>[(5,.t (.sc (.int .i64 a.2)))]) (fun a=>[]) (fun a=>a.1≤fuel∧zcM a.1 x1 x2 a.2=some r∧0≤a.2) (fuel,0) ⟨Nat.le_refl _,F1,by simp⟩ ?_
 clear F1
 rintro ⟨fu,g2⟩ ⟨hl3,F2,hn_g2⟩
 dsimp only at hl3 F2 hn_g2 ⊢
 obtain _ | fu:=fu
 · rw [zcM] at F2;cases F2
 rw [zcM] at F2
 refine zb (zb (za ?_))
 refine s_mv ?_
 refine s_mv ?_
 refine zB yU23 ?_
 refine s_lt ?_
 refine zf (zd ?_)
 refine zn F2 ?_ ?_<;>intro C4 F3
 refine zH 0 (fun B5=>?_)
 refine zi (zd (zb (zl (zb ?_))))
 refine zP yMix (by kernel_rfl) ?_
 refine s_mv ?_
 refine s_mv ?_
 obtain ⟨v6,V6,F4⟩:=zc F3
 refine zN rI V6 rfl yE23 ?_
 refine zq yA3 ?_
 refine s_mv ?_
 refine s_mv ?_
 obtain ⟨v7,V7,F5⟩:=zc F4
 refine zN rI V7 rfl yE23 ?_
 refine zq yA3 ?_
 refine s_ne ?_
 refine zai (by kernel_rfl) ?_
 refine zd ?_
 refine zn F5 ?_ ?_<;>intro C8 F6
 refine zb (za ?_)
 refine s_as ?_
 refine zf (zd (zh (zj (zg (zv (zj (zg (zo ?_))))))))
 cases F6
 exact zk [] [] Tryz.results54
 refine zi (zY (zd (za ?_)))
 refine s_mv ?_
 refine zE (zaF C4 B5 hn_g2) ?_
 refine s_as ?_
 refine zf ?_
 exact s_rn (fu,(g2+1)) ⟨by first | omega | (dsimp only;omega),F6,by first | omega | (dsimp only;omega)⟩
 refine zA (zr (zp (zu (zd (zb (za ?_))))))
 refine s_as ?_
 refine zf (zd (zh (zo ?_)))
 cases F3
 exact zk [] [] Tryz.results54
def zec (fuel:Nat):Prop:=∀ (x1:Form) (x2:Form) (r:Bool),zbm fuel x1 x2=some r→AC Tryz.prog 16 [.ag [.t (.sc (.int .i64 x1.kind)),.t (.sc (.str x1.name)),.t (.sc (.int .i64 x1.n)),.t (.sl (x1.scopes.map rI)),.t (.sl (x1.kids.map Form.row))],.ag [.t (.sc (.int .i64 x2.kind)),.t (.sc (.str x2.name)),.t (.sc (.int .i64 x2.n)),.t (.sl (x2.scopes.map rI)),.t (.sl (x2.kids.map Form.row))]] noOb (.t (.sc (.bool r))) noOb
def zdI (fuel:Nat):Prop:=∀ (x1:(List Form)) (x2:(List Form)) (r:Bool),zct fuel x1 x2=some r→AC Tryz.prog 17 [.t (.sl (x1.map Form.row)),.t (.sl (x2.map Form.row))] noOb (.t (.sc (.bool r))) noOb
theorem m_laws_eqForm_st (fu:Nat) (ih_m_laws_eqForm:∀ k,k≤fu→zec k) (ih_m_laws_eqFormS:∀ k,k≤fu→zdI k):zec (fu+1):=by
 intro x1 x2 r F0
 rw [zbm] at F0
 refine AC_i [.t (.sc (.bool r))] Tryz.func16 rfl Tryz.ntmps16 ?_
 intro C hC
 refine zb (za ?_)
 refine zbo ?_
 refine zbo ?_
 refine s_as ?_
 refine zf (zd (zb (zb (za ?_))))
 refine s_fa zcD ?_
 refine zq yA3 ?_
 refine s_fa zcD ?_
 refine zq yA3 ?_
 refine s_ne ?_
 refine zf (zd ?_)
 refine zn F0 ?_ ?_<;>intro C1 F1
 refine zb (za ?_)
 refine s_as ?_
 refine zf (zd (zh (zg (zo ?_))))
 cases F1
 exact zk [] [] Tryz.results16
 refine zi (zd (zb (zb (za ?_))))
 refine s_fa zbC ?_
 refine zq yA9 ?_
 refine s_fa zbC ?_
 refine zq yA9 ?_
 refine s_neS ?_
 refine zf (zd ?_)
 refine zn F1 ?_ ?_<;>intro C2 F2
 refine zb (za ?_)
 refine s_as ?_
 refine zf (zd (zh (zg (zo ?_))))
 cases F2
 exact zk [] [] Tryz.results16
 refine zi (zd (zb (zb (za ?_))))
 refine s_fa zeg ?_
 refine zq yA3 ?_
 refine s_fa zeg ?_
 refine zq yA3 ?_
 refine s_ne ?_
 refine zf (zd ?_)
 refine zn F2 ?_ ?_<;>intro C3 F3
 refine zb (za ?_)
 refine s_as ?_
 refine zf (zd (zh (zg (zo ?_))))
 cases F3
 exact zk [] [] Tryz.results16
 refine zi (zd (zb (zb (za ?_))))
 refine s_fa zdR ?_
 refine zq yA23 ?_
 refine s_fa zdR ?_
 refine zq yA23 ?_
 obtain ⟨v4,V4,F4⟩:=zc F3
 refine zy [] (m_laws_eqIntS_ok fu _ _ _ V4) ?_
 refine zbh ?_
 refine zf (zd ?_)
 refine zn F4 ?_ ?_<;>intro C5 F5
 refine zb (za ?_)
 refine s_as ?_
 refine zf (zd (zh (zg (zo ?_))))
 cases F5
 exact zk [] [] Tryz.results16
 refine zi (zd (zb (zb (za ?_))))
 refine s_fa zJ ?_
 refine zq yA35 ?_
 refine s_fa zJ ?_
 refine zq yA35 ?_
 obtain ⟨v6,V6,F6⟩:=zc F5
 refine zy [] (ih_m_laws_eqFormS fu (by omega) _ _ _ V6) ?_
 refine zbh ?_
 refine zf (zd ?_)
 refine zn F6 ?_ ?_<;>intro C7 F7
 refine zb (za ?_)
 refine s_as ?_
 refine zf (zd (zh (zg (zo ?_))))
 cases F7
 exact zk [] [] Tryz.results16
 refine zi (zd (zb (za ?_)))
 refine s_as ?_
 refine zf (zd (zh (zo ?_)))
 cases F7
 exact zk [] [] Tryz.results16
theorem m_laws_eqFormS_st (fu:Nat) (ih_m_laws_eqForm:∀ k,k≤fu→zec k) (ih_m_laws_eqFormS:∀ k,k≤fu→zdI k):zdI (fu+1):=by
 intro x1 x2 r F0
 rw [zct] at F0
 refine AC_i [.t (.sc (.bool r))] Tryz.func17 rfl Tryz.ntmps17 ?_
 intro C hC
 refine zb (za ?_)
 refine s_as ?_
 refine zf (zd (zb (zb (za ?_))))
 refine s_mv ?_
 refine zB yU35 ?_
 refine s_mv ?_
 refine zB yU35 ?_
 refine s_ne ?_
 refine zf (zd ?_)
 refine zn F0 ?_ ?_<;>intro C1 F1
 refine zb (za ?_)
 refine s_as ?_
 refine zf (zd (zh (zg (zo ?_))))
 cases F1
 exact zk [] [] Tryz.results17
 refine zi (zd (zb (zb (za ?_))))
 refine s_as ?_
 refine zf (zd (zl ?_))
 refine zaE (β:=Int) [4,5,11,12,13,14,15,16,17,18,19,20,21,22,23,24,25,26] [] [] (fun a=>[(5,.t (.sc (.int .i64 a.2)))]) (fun a=>[]) (fun a=>a.1≤fu∧zbF a.1 x1 x2 a.2=some r∧0≤a.2) (fu,0) ⟨Nat.le_refl _,F1,by simp⟩ ?_
 clear F1
 rintro ⟨fu,g2⟩ ⟨hl3,F2,hn_g2⟩
 dsimp only at hl3 F2 hn_g2 ⊢
 obtain _ | fu:=fu
 · rw [zbF] at F2;cases F2
 rw [zbF] at F2
 refine zb (zb (za ?_))
 refine s_mv ?_
 refine s_mv ?_
 refine zB yU35 ?_
 refine s_lt ?_
 refine zf (zd ?_)
 refine zn F2 ?_ ?_<;>intro C4 F3
 refine zH 0 (fun B5=>?_)
 refine zi (zd (zb (zl (zb ?_))))
 refine zP yMix (by kernel_rfl) ?_
 refine s_mv ?_
 refine s_mv ?_
 obtain ⟨v6,V6,F4⟩:=zc F3
 refine zN Form.row V6 (Form.row_eq _) yE35 ?_
 refine zaI yA37 yS37 ?_
 refine s_mv ?_
 refine s_mv ?_
 obtain ⟨v7,V7,F5⟩:=zc F4
 refine zN Form.row V7 (Form.row_eq _) yE35 ?_
 refine zaI yA37 yS37 ?_
 obtain ⟨v8,V8,F6⟩:=zc F5
 refine zy [] (ih_m_laws_eqForm fu (by omega) _ _ _ V8) ?_
 refine zbh ?_
 refine zai (by kernel_rfl) ?_
 refine zd ?_
 refine zn F6 ?_ ?_<;>intro C9 F7
 refine zb (za ?_)
 refine s_as ?_
 refine zf (zd (zh (zj (zg (zv (zj (zg (zo ?_))))))))
 cases F7
 exact zk [] [] Tryz.results17
 refine zi (zY (zd (za ?_)))
 refine s_mv ?_
 refine zE (zaF C4 B5 hn_g2) ?_
 refine s_as ?_
 refine zf ?_
 exact s_rn (fu,(g2+1)) ⟨by first | omega | (dsimp only;omega),F7,by first | omega | (dsimp only;omega)⟩
 refine zA (zr (zp (zu (zd (zb (za ?_))))))
 refine s_as ?_
 refine zf (zd (zh (zo ?_)))
 cases F3
 exact zk [] [] Tryz.results17
theorem zg5 (fuel:Nat):zec fuel∧zdI fuel:=by
 induction fuel using Nat.strongRecOn with
 | _ N ih =>
   cases N with
   | zero=>exact ⟨(by intro x1 x2 r h;rw [zbm] at h;cases h),(by intro x1 x2 r h;rw [zct] at h;cases h)⟩
   | succ fu=>exact ⟨m_laws_eqForm_st fu (fun k hk=>(ih k (by omega)).1) (fun k hk=>(ih k (by omega)).2),m_laws_eqFormS_st fu (fun k hk=>(ih k (by omega)).1) (fun k hk=>(ih k (by omega)).2)⟩
theorem ze4 (fuel:Nat):zec fuel:=(zg5 fuel).1
theorem m_laws_eqFormS_ok (fuel:Nat):zdI fuel:=(zg5 fuel).2
def zfx (fuel:Nat):Prop:=∀ (x1:Hit) (x2:Hit) (r:Bool),zdS fuel x1 x2=some r→AC Tryz.prog 52 [.ag [.t (.sc (.int .i64 x1.name.kind)),.t (.sc (.str x1.name.name)),.t (.sc (.int .i64 x1.name.n)),.t (.sl (x1.name.scopes.map rI)),.t (.sl (x1.name.kids.map Form.row)),.t (.sc (.int .i64 x1.depth)),.t (.sc (.int .i64 x1.one.kind)),.t (.sc (.str x1.one.name)),.t (.sc (.int .i64 x1.one.n)),.t (.sl (x1.one.scopes.map rI)),.t (.sl (x1.one.kids.map Form.row)),.t (.sl (x1.many.map Hit.row))],.ag [.t (.sc (.int .i64 x2.name.kind)),.t (.sc (.str x2.name.name)),.t (.sc (.int .i64 x2.name.n)),.t (.sl (x2.name.scopes.map rI)),.t (.sl (x2.name.kids.map Form.row)),.t (.sc (.int .i64 x2.depth)),.t (.sc (.int .i64 x2.one.kind)),.t (.sc (.str x2.one.name)),.t (.sc (.int .i64 x2.one.n)),.t (.sl (x2.one.scopes.map rI)),.t (.sl (x2.one.kids.map Form.row)),.t (.sl (x2.many.map Hit.row))]] noOb (.t (.sc (.bool r))) noOb
def zeb (fuel:Nat):Prop:=∀ (x1:(List Hit)) (x2:(List Hit)) (r:Bool),zb6 fuel x1 x2=some r→AC Tryz.prog 14 [.t (.sl (x1.map Hit.row)),.t (.sl (x2.map Hit.row))] noOb (.t (.sc (.bool r))) noOb
theorem m_laws_eqHit_st (fu:Nat) (ih_m_laws_eqHit:∀ k,k≤fu→zfx k) (ih_m_laws_eqHitS:∀ k,k≤fu→zeb k):zfx (fu+1):=by
 intro x1 x2 r F0
 rw [zdS] at F0
 refine AC_i [.t (.sc (.bool r))] Tryz.func52 rfl Tryz.ntmps52 ?_
 intro C hC
 refine zb (za ?_)
 refine zbo ?_
 refine zbo ?_
 refine s_as ?_
 refine zf (zd (zb (zb (za ?_))))
 refine s_fa zgW ?_
 refine zaI yA37 yS37 ?_
 refine s_fa zgW ?_
 refine zaI yA37 yS37 ?_
 obtain ⟨v1,V1,F1⟩:=zc F0
 refine zy [] (ze4 fu _ _ _ V1) ?_
 refine zbh ?_
 refine zf (zd ?_)
 refine zn F1 ?_ ?_<;>intro C2 F2
 refine zb (za ?_)
 refine s_as ?_
 refine zf (zd (zh (zg (zo ?_))))
 cases F2
 exact zk [] [] Tryz.results52
 refine zi (zd (zb (zb (za ?_))))
 refine s_fa yF88_1 ?_
 refine zq yA3 ?_
 refine s_fa yF88_1 ?_
 refine zq yA3 ?_
 refine s_ne ?_
 refine zf (zd ?_)
 refine zn F2 ?_ ?_<;>intro C3 F3
 refine zb (za ?_)
 refine s_as ?_
 refine zf (zd (zh (zg (zo ?_))))
 cases F3
 exact zk [] [] Tryz.results52
 refine zi (zd (zb (zb (za ?_))))
 refine s_fa zgV ?_
 refine zaI yA37 yS37 ?_
 refine s_fa zgV ?_
 refine zaI yA37 yS37 ?_
 obtain ⟨v4,V4,F4⟩:=zc F3
 refine zy [] (ze4 fu _ _ _ V4) ?_
 refine zbh ?_
 refine zf (zd ?_)
 refine zn F4 ?_ ?_<;>intro C5 F5
 refine zb (za ?_)
 refine s_as ?_
 refine zf (zd (zh (zg (zo ?_))))
 cases F5
 exact zk [] [] Tryz.results52
 refine zi (zd (zb (zb (za ?_))))
 refine s_fa zgD ?_
 refine zq yA30 ?_
 refine s_fa zgD ?_
 refine zq yA30 ?_
 obtain ⟨v6,V6,F6⟩:=zc F5
 refine zy [] (ih_m_laws_eqHitS fu (by omega) _ _ _ V6) ?_
 refine zbh ?_
 refine zf (zd ?_)
 refine zn F6 ?_ ?_<;>intro C7 F7
 refine zb (za ?_)
 refine s_as ?_
 refine zf (zd (zh (zg (zo ?_))))
 cases F7
 exact zk [] [] Tryz.results52
 refine zi (zd (zb (za ?_)))
 refine s_as ?_
 refine zf (zd (zh (zo ?_)))
 cases F7
 exact zk [] [] Tryz.results52
theorem m_laws_eqHitS_st (fu:Nat) (ih_m_laws_eqHit:∀ k,k≤fu→zfx k) (ih_m_laws_eqHitS:∀ k,k≤fu→zeb k):zeb (fu+1):=by
 intro x1 x2 r F0
 rw [zb6] at F0
 refine AC_i [.t (.sc (.bool r))] Tryz.func14 rfl Tryz.ntmps14 ?_
 intro C hC
 refine zb (za ?_)
 refine s_as ?_
 refine zf (zd (zb (zb (za ?_))))
 refine s_mv ?_
 refine zB yU30 ?_
 refine s_mv ?_
 refine zB yU30 ?_
 refine s_ne ?_
 refine zf (zd ?_)
 refine zn F0 ?_ ?_<;>intro C1 F1
 refine zb (za ?_)
 refine s_as ?_
 refine zf (zd (zh (zg (zo ?_))))
 cases F1
 exact zk [] [] Tryz.results14
 refine zi (zd (zb (zb (za ?_))))
 refine s_as ?_
 refine zf (zd (zl ?_))
 refine zaE (β:=Int) [4,5,11,12,13,14,15,16,17,18,19,20,21,22,23,24,25,26] [] [] (fun a=>[(5,.t (.sc (.int .i64 a.2)))]) (fun a=>[]) (fun a=>a.1≤fu∧zcN a.1 x1 x2 a.2=some r∧0≤a.2) (fu,0) ⟨Nat.le_refl _,F1,by simp⟩ ?_
 clear F1
 rintro ⟨fu,g2⟩ ⟨hl3,F2,hn_g2⟩
 dsimp only at hl3 F2 hn_g2 ⊢
 obtain _ | fu:=fu
 · rw [zcN] at F2;cases F2
 rw [zcN] at F2
 refine zb (zb (za ?_))
 refine s_mv ?_
 refine s_mv ?_
 refine zB yU30 ?_
 refine s_lt ?_
 refine zf (zd ?_)
 refine zn F2 ?_ ?_<;>intro C4 F3
 refine zH 0 (fun B5=>?_)
 refine zi (zd (zb (zl (zb ?_))))
 refine zP yMix (by kernel_rfl) ?_
 refine s_mv ?_
 refine s_mv ?_
 obtain ⟨v6,V6,F4⟩:=zc F3
 refine zN Hit.row V6 (Hit.row_eq _) yE30 ?_
 refine zaI yA88 yS88 ?_
 refine s_mv ?_
 refine s_mv ?_
 obtain ⟨v7,V7,F5⟩:=zc F4
 refine zN Hit.row V7 (Hit.row_eq _) yE30 ?_
 refine zaI yA88 yS88 ?_
 obtain ⟨v8,V8,F6⟩:=zc F5
 refine zy [] (ih_m_laws_eqHit fu (by omega) _ _ _ V8) ?_
 refine zbh ?_
 refine zai (by kernel_rfl) ?_
 refine zd ?_
 refine zn F6 ?_ ?_<;>intro C9 F7
 refine zb (za ?_)
 refine s_as ?_
 refine zf (zd (zh (zj (zg (zv (zj (zg (zo ?_))))))))
 cases F7
 exact zk [] [] Tryz.results14
 refine zi (zY (zd (za ?_)))
 refine s_mv ?_
 refine zE (zaF C4 B5 hn_g2) ?_
 refine s_as ?_
 refine zf ?_
 exact s_rn (fu,(g2+1)) ⟨by first | omega | (dsimp only;omega),F7,by first | omega | (dsimp only;omega)⟩
 refine zA (zr (zp (zu (zd (zb (za ?_))))))
 refine s_as ?_
 refine zf (zd (zh (zo ?_)))
 cases F3
 exact zk [] [] Tryz.results14
theorem m_laws_eqHit_all (fuel:Nat):zfx fuel∧zeb fuel:=by
 induction fuel using Nat.strongRecOn with
 | _ N ih =>
   cases N with
   | zero=>exact ⟨(by intro x1 x2 r h;rw [zdS] at h;cases h),(by intro x1 x2 r h;rw [zb6] at h;cases h)⟩
   | succ fu=>exact ⟨m_laws_eqHit_st fu (fun k hk=>(ih k (by omega)).1) (fun k hk=>(ih k (by omega)).2),m_laws_eqHitS_st fu (fun k hk=>(ih k (by omega)).1) (fun k hk=>(ih k (by omega)).2)⟩
theorem zf8 (fuel:Nat):zeb fuel:=(m_laws_eqHit_all fuel).2
def m_laws_eqBind_AC (fuel:Nat):Prop:=∀ (x1:Bind) (x2:Bind) (r:Bool),zeJ fuel x1 x2=some r→AC Tryz.prog 53 [.ag [.t (.sc (.str x1.name)),.t (.sl (x1.scopes.map rI)),.t (.sc (.int .i64 x1.id))],.ag [.t (.sc (.str x2.name)),.t (.sl (x2.scopes.map rI)),.t (.sc (.int .i64 x2.id))]] noOb (.t (.sc (.bool r))) noOb
theorem m_laws_eqBind_ok (fuel:Nat):m_laws_eqBind_AC fuel:=by
 intro x1 x2 r F0
 unfold zeJ at F0
 refine AC_i [.t (.sc (.bool r))] Tryz.func53 rfl Tryz.ntmps53 ?_
 intro C hC
 refine zb (za ?_)
 refine zbo ?_
 refine zbo ?_
 refine s_as ?_
 refine zf (zd (zb (zb (za ?_))))
 refine s_fa zgX ?_
 refine zq yA9 ?_
 refine s_fa zgX ?_
 refine zq yA9 ?_
 refine s_neS ?_
 refine zf (zd ?_)
 refine zn F0 ?_ ?_<;>intro C1 F1
 refine zb (za ?_)
 refine s_as ?_
 refine zf (zd (zh (zg (zo ?_))))
 cases F1
 exact zk [] [] Tryz.results53
 refine zi (zd (zb (zb (za ?_))))
 refine s_fa zfY ?_
 refine zq yA23 ?_
 refine s_fa zfY ?_
 refine zq yA23 ?_
 obtain ⟨v2,V2,F2⟩:=zc F1
 refine zy [] (m_laws_eqIntS_ok fuel _ _ _ V2) ?_
 refine zbh ?_
 refine zf (zd ?_)
 refine zn F2 ?_ ?_<;>intro C3 F3
 refine zb (za ?_)
 refine s_as ?_
 refine zf (zd (zh (zg (zo ?_))))
 cases F3
 exact zk [] [] Tryz.results53
 refine zi (zd (zb (zb (za ?_))))
 refine s_fa yF83_2 ?_
 refine zq yA3 ?_
 refine s_fa yF83_2 ?_
 refine zq yA3 ?_
 refine s_ne ?_
 refine zf (zd ?_)
 refine zn F3 ?_ ?_<;>intro C4 F4
 refine zb (za ?_)
 refine s_as ?_
 refine zf (zd (zh (zg (zo ?_))))
 cases F4
 exact zk [] [] Tryz.results53
 refine zi (zd (zb (za ?_)))
 refine s_as ?_
 refine zf (zd (zh (zo ?_)))
 cases F4
 exact zk [] [] Tryz.results53
def m_laws_eqBindS_AC (fuel:Nat):Prop:=∀ (x1:(List Bind)) (x2:(List Bind)) (r:Bool),zeU fuel x1 x2=some r→AC Tryz.prog 15 [.t (.sl (x1.map Bind.row)),.t (.sl (x2.map Bind.row))] noOb (.t (.sc (.bool r))) noOb
theorem m_laws_eqBindS_ok (fuel:Nat):m_laws_eqBindS_AC fuel:=by
 intro x1 x2 r F0
 unfold zeU at F0
 refine AC_i [.t (.sc (.bool r))] Tryz.func15 rfl Tryz.ntmps15 ?_
 intro C hC
 refine zb (za ?_)
 refine s_as ?_
 refine zf (zd (zb (zb (za ?_))))
 refine s_mv ?_
 refine zB yU33 ?_
 refine s_mv ?_
 refine zB yU33 ?_
 refine s_ne ?_
 refine zf (zd ?_)
 refine zn F0 ?_ ?_<;>intro C1 F1
 refine zb (za ?_)
 refine s_as ?_
 refine zf (zd (zh (zg (zo ?_))))
 cases F1
 exact zk [] [] Tryz.results15
 refine zi (zd (zb (zb (za ?_))))
 refine s_as ?_
 refine zf (zd (zl ?_))
 refine zaE (β:=Int) [4,5,11,12,13,14,15,16,17,18,19,20,21,22,23,24,25,26] [] [] (fun a=>[(5,.t (.sc (.int .i64 a.2)))]) (fun a=>[]) (fun a=>a.1≤fuel∧zcm a.1 x1 x2 a.2=some r∧0≤a.2) (fuel,0) ⟨Nat.le_refl _,F1,by simp⟩ ?_
 clear F1
 rintro ⟨fu,g2⟩ ⟨hl3,F2,hn_g2⟩
 dsimp only at hl3 F2 hn_g2 ⊢
 obtain _ | fu:=fu
 · rw [zcm] at F2;cases F2
 rw [zcm] at F2
 refine zb (zb (za ?_))
 refine s_mv ?_
 refine s_mv ?_
 refine zB yU33 ?_
 refine s_lt ?_
 refine zf (zd ?_)
 refine zn F2 ?_ ?_<;>intro C4 F3
 refine zH 0 (fun B5=>?_)
 refine zi (zd (zb (zl (zb ?_))))
 refine zP yMix (by kernel_rfl) ?_
 refine s_mv ?_
 refine s_mv ?_
 obtain ⟨v6,V6,F4⟩:=zc F3
 refine zN Bind.row V6 (Bind.row_eq _) yE33 ?_
 refine zaI yA83 yS83 ?_
 refine s_mv ?_
 refine s_mv ?_
 obtain ⟨v7,V7,F5⟩:=zc F4
 refine zN Bind.row V7 (Bind.row_eq _) yE33 ?_
 refine zaI yA83 yS83 ?_
 obtain ⟨v8,V8,F6⟩:=zc F5
 refine zy [] (m_laws_eqBind_ok fu _ _ _ V8) ?_
 refine zbh ?_
 refine zai (by kernel_rfl) ?_
 refine zd ?_
 refine zn F6 ?_ ?_<;>intro C9 F7
 refine zb (za ?_)
 refine s_as ?_
 refine zf (zd (zh (zj (zg (zv (zj (zg (zo ?_))))))))
 cases F7
 exact zk [] [] Tryz.results15
 refine zi (zY (zd (za ?_)))
 refine s_mv ?_
 refine zE (zaF C4 B5 hn_g2) ?_
 refine s_as ?_
 refine zf ?_
 exact s_rn (fu,(g2+1)) ⟨by first | omega | (dsimp only;omega),F7,by first | omega | (dsimp only;omega)⟩
 refine zA (zr (zp (zu (zd (zb (za ?_))))))
 refine s_as ?_
 refine zf (zd (zh (zo ?_)))
 cases F3
 exact zk [] [] Tryz.results15
def m_laws_markText_D_AC (fuel:Nat):Prop:=∀ (x1:Int) (r:ByteArray),za1 fuel x1=some r→AC Tryz.prog 55 [.t (.sc (.int .i64 x1))] noOb (.t (.sc (.str r))) noOb
theorem zbH (fuel:Nat):m_laws_markText_D_AC fuel:=by
 intro x1 r F0
 unfold za1 at F0
 refine AC_i [.t (.sc (.str r))] Tryz.func55 rfl Tryz.ntmps55 ?_
 intro C hC
 refine zb (za ?_)
 refine s_as ?_
 refine zf (zd (zb (zb (za ?_))))
 refine s_mv ?_
 refine s_le ?_
 refine zf (zd ?_)
 refine zn F0 ?_ ?_<;>intro C1 F1
 refine zb (za ?_)
 refine s_as ?_
 refine zf (zd (zh (zg (zo ?_))))
 cases F1
 exact zk [] [] Tryz.results55
 refine zi (zd (zb (za ?_)))
 refine s_as ?_
 refine zf (zd (zb (zl ?_)))
 refine zaE (β:=Int × ByteArray) [0,3,6,7,8,9,10,11,12,13,14,15,16,17] [] [12] (fun a=>[(0,.t (.sc (.int .i64 a.2.1))),(3,.t (.sc (.str a.2.2)))]) (fun a=>[]) (fun a=>a.1≤fuel∧zbl a.1  a.2.1 a.2.2=some r) (fuel,x1,(⟨#[]⟩:ByteArray)) ⟨Nat.le_refl _,F1⟩ ?_
 clear F1
 rintro ⟨fu,g2,g3⟩ ⟨hl4,F2⟩
 dsimp only at hl4 F2 ⊢
 obtain _ | fu:=fu
 · rw [zbl] at F2;cases F2
 rw [zbl] at F2
 refine zb (zb (za ?_))
 refine s_mv ?_
 refine s_gt ?_
 refine zf (zd ?_)
 refine zn F2 ?_ ?_<;>intro C5 F3
 refine zi (zd (zl (zb (za ?_))))
 refine s_mv ?_
 refine s_rem ?_
 refine zE rfl ?_
 refine s_int yU3 yU5 rfl ?_
 refine s_bs rB [(w8 (w64 (48+(g2.tmod 10))))] yP131 yR5 ?_
 refine s_bst (l:=[(w8 (w64 (48+(g2.tmod 10))))]) yU131 yU9 yE131 yU5 ?_
 refine s_mv ?_
 obtain ⟨v6,V6,F4⟩:=zc F3
 refine s_cat V6 ?_
 refine s_as ?_
 refine zf (zd (za ?_))
 refine s_mv ?_
 refine s_quo rfl ?_
 refine s_as ?_
 refine zf (zY ?_)
 exact s_rn (fu,(w64 (g2.tdiv 10)),v6) ⟨by first | omega | (dsimp only;omega),F4⟩
 refine zA (zr (zp (zu (zd (zb (za ?_))))))
 refine s_mv ?_
 obtain ⟨v7,V7,F4⟩:=zc F3
 refine s_cat V7 ?_
 refine s_as ?_
 refine zf (zd (zh (zo ?_)))
 cases F4
 exact zk [] [] Tryz.results55
def m_laws_markIntS_D_AC (fuel:Nat):Prop:=∀ (x1:(List Int)) (x2:Int) (r:(Int × (List Int))),zb5 fuel x1 x2=some r→AC Tryz.prog 56 [.ar 9300,.t (.sc (.int .i64 x2))] (objs [(9300,.arr (x1.map rI) 3 true)]) (.t (.sc (.int .i64 r.1))) (objs [(9300,.arr (r.2.map rI) 3 true)])
theorem zcQ (fuel:Nat):m_laws_markIntS_D_AC fuel:=by
 intro x1 x2 r F0
 unfold zb5 at F0
 refine AC_i [.t (.sc (.int .i64 r.1))] Tryz.func56 rfl Tryz.ntmps56 ?_
 intro C hC
 refine zb (za ?_)
 refine s_as ?_
 refine zf (zd (zb (zb (za ?_))))
 refine s_as ?_
 refine zf (zd (zl ?_))
 refine zaE (β:=Int × Int × (List Int)) [1,5,6,7,8,9,10,11,12,13,14,15,16,17] [9300] [] (fun a=>[(1,.t (.sc (.int .i64 a.2.1))),(5,.t (.sc (.int .i64 a.2.2.1)))]) (fun a=>[(9300,.arr (a.2.2.2.map rI) 3 true)]) (fun a=>a.1≤fuel∧zbK a.1  a.2.1 a.2.2.1 a.2.2.2=some r∧0≤a.2.2.1) (fuel,x2,0,x1) ⟨Nat.le_refl _,F0,by simp⟩ ?_
 clear F0
 rintro ⟨fu,g1,g2,g3⟩ ⟨hl4,F1,hn_g2⟩
 dsimp only at hl4 F1 hn_g2 ⊢
 obtain _ | fu:=fu
 · rw [zbK] at F1;cases F1
 rw [zbK] at F1
 refine zb (zb (za ?_))
 refine s_mv ?_
 refine s_mv ?_
 refine s_lenA yU23 ?_
 refine s_lt ?_
 refine zf (zd ?_)
 refine zn F1 ?_ ?_<;>intro C5 F2
 refine awp_lenA 0 9300 (fun B6=>?_)
 refine zi (zd (zb (zl (zb (za ?_)))))
 iterate 3 refine s_mv ?_
 obtain ⟨v7,V7,F3⟩:=zc F2
 refine s_ixA rI V7 yE23 ?_
 refine s_stA rI g1 V7 rfl rfl yS3 yS3 ?_
 refine zf (zd (za ?_))
 refine s_mv ?_
 refine zE rfl ?_
 refine s_as ?_
 refine zf (zY (zd (za ?_)))
 refine s_mv ?_
 refine zE (zaF C5 B6 hn_g2) ?_
 refine s_as ?_
 refine zf ?_
 exact s_rn (fu,(w64 (g1+1)),(g2+1),(g3.set g2.toNat g1)) ⟨by first | omega | (dsimp only;omega),F3,by first | omega | (dsimp only;omega)⟩
 refine zA (zr (zp (zu (zd (zb (za ?_))))))
 refine s_mv ?_
 refine s_as ?_
 refine zf (zd (zh (zo ?_)))
 cases F2
 exact zk _ [] Tryz.results56
def m_laws_markBindS_D_AC (fuel:Nat):Prop:=∀ (x1:(List Bind)) (x2:Int) (r:(Int × (List Bind))),zea fuel x1 x2=some r→AC Tryz.prog 18 [.ar 9300,.t (.sc (.int .i64 x2))] (objs [(9300,.dar (x1.map (Bind.rowD 3)) 83)]) (.t (.sc (.int .i64 r.1))) (objs [(9300,.dar (r.2.map (Bind.rowD 3)) 83)])
theorem m_laws_markBindS_D_ok (fuel:Nat):m_laws_markBindS_D_AC fuel:=by
 intro x1 x2 r F0
 unfold zea at F0
 refine AC_i [.t (.sc (.int .i64 r.1))] Tryz.func18 rfl Tryz.ntmps18 ?_
 intro C hC
 refine zb (za ?_)
 refine s_as ?_
 refine zf (zd (zb (zb (za ?_))))
 refine s_as ?_
 refine zf (zd (zl ?_))
 refine zaE (β:=Int × Int × (List Bind)) [1,5,6,7,8,9,10,11,12,13,14,15,16,17,18,19,20,21,22,23,24,25,26,27,28,29,30,31,32,33] [9300] [24] (fun a=>[(1,.t (.sc (.int .i64 a.2.1))),(5,.t (.sc (.int .i64 a.2.2.1)))]) (fun a=>[(9300,.dar (a.2.2.2.map (Bind.rowD 3)) 83)]) (fun a=>a.1≤fuel∧zaX a.1  a.2.1 a.2.2.1 a.2.2.2=some r) (fuel,x2,0,x1) ⟨Nat.le_refl _,F0⟩ ?_
 clear F0
 rintro ⟨fu,g1,g2,g3⟩ ⟨hl4,F1⟩
 dsimp only at hl4 F1 ⊢
 obtain _ | fu:=fu
 · rw [zaX] at F1;cases F1
 rw [zaX] at F1
 refine zb (zb (za ?_))
 refine s_mv ?_
 refine s_mv ?_
 refine s_lenD yU33 ?_
 refine s_lt ?_
 refine zf (zd ?_)
 refine zn F1 ?_ ?_<;>intro C5 F2
 refine zi (zd (zb (zl (zb (za ?_)))))
 iterate 3 refine s_mv ?_
 obtain ⟨v6,V6,F3⟩:=zc F2
 refine zy [] (zbH fu _ _ V6) ?_
 obtain ⟨v7,V7,F4⟩:=zc F3
 refine zgi (Bind.rowD 3) V7 yE33 ?_
 refine s_fa zgX ?_
 refine s_stC (q:=9300) (off:=0) (u:=.sc (.str v6)) (Bind.rowD 3) (Bind.mk v6 v7.scopes v7.id) V7 (by rw [(Bind.rowDE _ _),(Bind.rowDE _ _)];rfl) yS9 yS83 (hw:=by rw [(Bind.rowDE _ _)];rfl) ?_
 refine zf (zd (zb (za ?_)))
 refine s_mv ?_
 refine zE rfl ?_
 refine s_as ?_
 refine zf (zd (zb (za ?_)))
 refine s_mv ?_
 refine s_mv ?_
 obtain ⟨v8,V8,F5⟩:=zc F4
 refine zgi (Bind.rowD 3) V8 yE33 ?_
 refine s_fa zfY ?_
 refine s_ldHA (Bind.rowD 3) rI v8.scopes plain_rI V8 yA23 yS83 (hw:=by rw [(Bind.rowDE _ _)];rfl) ?_
 refine s_mv ?_
 obtain ⟨v9,V9,F6⟩:=zc F5
 refine zT [(9300,24)] [] _ _ (zcQ fu _ _ _ V9) ?_
 refine s_as ?_
 refine zf (zd ?_)
 refine awp_jsA 9300 24 [.sc (.str v8.name),.ow 3 (v9.2.map rI),.sc (.int .i64 v8.id)] V8 (row:=(Bind.rowD 3)) (hj:=by rw [(Bind.rowDE _ _)];rfl) (hf:=by rw [(Bind.rowDE _ _)];rfl) ?_
 refine zgA 9300 (row:=(Bind.rowD 3)) (fs:=[.sc (.str v8.name),.ow 3 (v9.2.map rI),.sc (.int .i64 v8.id)]) (Bind.mk v8.name v9.2 v8.id) (Bind.rowDE _ _) ?_
 refine zb (za ?_)
 iterate 3 refine s_mv ?_
 obtain ⟨v10,V10,F7⟩:=zc F6
 refine zgi (Bind.rowD 3) V10 yE33 ?_
 refine s_fa yF83_2 ?_
 refine s_stC (q:=9300) (off:=2) (u:=.sc (.int .i64 v9.1)) (Bind.rowD 3) (Bind.mk v10.name v10.scopes v9.1) V10 (by rw [(Bind.rowDE _ _),(Bind.rowDE _ _)];rfl) yS3 yS83 (hw:=by rw [(Bind.rowDE _ _)];rfl) ?_
 refine zf (zd (za ?_))
 refine s_mv ?_
 refine zE rfl ?_
 refine s_as ?_
 refine zf (zY (zd (za ?_)))
 refine s_mv ?_
 refine zE rfl ?_
 refine s_as ?_
 refine zf ?_
 exact s_rn (fu,(w64 (v9.1+1)),(w64 (g2+1)),(((g3.set g2.toNat (Bind.mk v6 v7.scopes v7.id)).set g2.toNat (Bind.mk v8.name v9.2 v8.id)).set g2.toNat (Bind.mk v10.name v10.scopes v9.1))) ⟨by first | omega | (dsimp only;omega),F7⟩
 refine zA (zr (zp (zu (zd (zb (za ?_))))))
 refine s_mv ?_
 refine s_as ?_
 refine zf (zd (zh (zo ?_)))
 cases F2
 exact zk _ [] Tryz.results18
def zdk (fuel:Nat):Prop:=∀ (x1:(List Form)) (x2:Int) (r:(Int × (List Form))),zax fuel x1 x2=some r→AC Tryz.prog 20 [.ar 9300,.t (.sc (.int .i64 x2))] (objs [(9300,.dar (x1.map (Form.rowD 3 37)) 37)]) (.t (.sc (.int .i64 r.1))) (objs [(9300,.dar (r.2.map (Form.rowD 3 37)) 37)])
theorem m_laws_markFormS_D_st (fu:Nat) (ih_m_laws_markFormS_D:∀ k,k≤fu→zdk k):zdk (fu+1):=by
 intro x1 x2 r F0
 rw [zax] at F0
 refine AC_i [.t (.sc (.int .i64 r.1))] Tryz.func20 rfl Tryz.ntmps20 ?_
 intro C hC
 refine zb (za ?_)
 refine s_as ?_
 refine zf (zd (zb (zb (za ?_))))
 refine s_as ?_
 refine zf (zd (zl ?_))
 refine zaE (β:=Int × Int × (List Form)) [1,5,6,7,8,9,10,11,12,13,14,15,16,17,18,19,20,21,22,23,24,25,26,27,28,29,30,31,32,33,34,35,36,37,38,39,40,41,42,43,44,45,46,47] [9300] [38,45] (fun a=>[(1,.t (.sc (.int .i64 a.2.1))),(5,.t (.sc (.int .i64 a.2.2.1)))]) (fun a=>[(9300,.dar (a.2.2.2.map (Form.rowD 3 37)) 37)]) (fun a=>a.1≤fu∧zbu a.1  a.2.1 a.2.2.1 a.2.2.2=some r) (fu,x2,0,x1) ⟨Nat.le_refl _,F0⟩ ?_
 clear F0
 rintro ⟨fu,g1,g2,g3⟩ ⟨hl4,F1⟩
 dsimp only at hl4 F1 ⊢
 obtain _ | fu:=fu
 · rw [zbu] at F1;cases F1
 rw [zbu] at F1
 refine zb (zb (za ?_))
 refine s_mv ?_
 refine s_mv ?_
 refine s_lenD yU35 ?_
 refine s_lt ?_
 refine zf (zd ?_)
 refine zn F1 ?_ ?_<;>intro C5 F2
 refine zi (zd (zb (zl (zb (za ?_)))))
 iterate 3 refine s_mv ?_
 obtain ⟨v6,V6,F3⟩:=zc F2
 refine zgi (Form.rowD 3 37) V6 yE35 ?_
 refine s_fa zcD ?_
 refine s_stC (q:=9300) (off:=0) (u:=.sc (.int .i64 g1)) (Form.rowD 3 37) (Form.mk g1 v6.name v6.n v6.scopes v6.kids) V6 (by rw [(Form.rowDE _ _ _),(Form.rowDE _ _ _)];rfl) yS3 yS37 (hw:=by rw [(Form.rowDE _ _ _)];rfl) ?_
 refine zf (zd (zb (za ?_)))
 refine s_mv ?_
 refine zE rfl ?_
 refine s_as ?_
 refine zf (zd (zb (za ?_)))
 iterate 3 refine s_mv ?_
 obtain ⟨v7,V7,F4⟩:=zc F3
 refine zy [] (zbH fu _ _ V7) ?_
 obtain ⟨v8,V8,F5⟩:=zc F4
 refine zgi (Form.rowD 3 37) V8 yE35 ?_
 refine s_fa zbC ?_
 refine s_stC (q:=9300) (off:=1) (u:=.sc (.str v7)) (Form.rowD 3 37) (Form.mk v8.kind v7 v8.n v8.scopes v8.kids) V8 (by rw [(Form.rowDE _ _ _),(Form.rowDE _ _ _)];rfl) yS9 yS37 (hw:=by rw [(Form.rowDE _ _ _)];rfl) ?_
 refine zf (zd (zb (za ?_)))
 refine s_mv ?_
 refine zE rfl ?_
 refine s_as ?_
 refine zf (zd (zb (za ?_)))
 iterate 3 refine s_mv ?_
 obtain ⟨v9,V9,F6⟩:=zc F5
 refine zgi (Form.rowD 3 37) V9 yE35 ?_
 refine s_fa zeg ?_
 refine s_stC (q:=9300) (off:=2) (u:=.sc (.int .i64 (w64 ((w64 (g1+1))+1)))) (Form.rowD 3 37) (Form.mk v9.kind v9.name (w64 ((w64 (g1+1))+1)) v9.scopes v9.kids) V9 (by rw [(Form.rowDE _ _ _),(Form.rowDE _ _ _)];rfl) yS3 yS37 (hw:=by rw [(Form.rowDE _ _ _)];rfl) ?_
 refine zf (zd (zb (za ?_)))
 refine s_mv ?_
 refine zE rfl ?_
 refine s_as ?_
 refine zf (zd (zb (za ?_)))
 refine s_mv ?_
 refine s_mv ?_
 obtain ⟨v10,V10,F7⟩:=zc F6
 refine zgi (Form.rowD 3 37) V10 yE35 ?_
 refine s_fa zdR ?_
 refine s_ldHA (Form.rowD 3 37) rI v10.scopes plain_rI V10 yA23 yS37 (hw:=by rw [(Form.rowDE _ _ _)];rfl) ?_
 refine s_mv ?_
 obtain ⟨v11,V11,F8⟩:=zc F7
 refine zT [(9300,38)] [] _ _ (zcQ fu _ _ _ V11) ?_
 refine s_as ?_
 refine zf (zd ?_)
 refine awp_jsA 9300 38 [.sc (.int .i64 v10.kind),.sc (.str v10.name),.sc (.int .i64 v10.n),.ow 3 (v11.2.map rI),.ow 37 (v10.kids.map (Form.rowD 3 37))] V10 (row:=(Form.rowD 3 37)) (hj:=by rw [(Form.rowDE _ _ _)];rfl) (hf:=by rw [(Form.rowDE _ _ _)];rfl) ?_
 refine zgA 9300 (row:=(Form.rowD 3 37)) (fs:=[.sc (.int .i64 v10.kind),.sc (.str v10.name),.sc (.int .i64 v10.n),.ow 3 (v11.2.map rI),.ow 37 (v10.kids.map (Form.rowD 3 37))]) (Form.mk v10.kind v10.name v10.n v11.2 v10.kids) (Form.rowDE _ _ _) ?_
 refine za ?_
 refine s_mv ?_
 refine s_mv ?_
 obtain ⟨v12,V12,F9⟩:=zc F8
 refine zgi (Form.rowD 3 37) V12 yE35 ?_
 refine s_fa zJ ?_
 refine s_ldHD (Form.rowD 3 37) (Form.rowD 3 37) v12.kids V12 yA35 yS37 (hw:=by rw [(Form.rowDE _ _ _)];rfl) ?_
 refine s_mv ?_
 obtain ⟨v13,V13,F10⟩:=zc F9
 refine zT [(9300,45)] [] _ _ (ih_m_laws_markFormS_D fu (by omega) _ _ _ V13) ?_
 refine s_as ?_
 refine zf (zY (zd ?_))
 refine awp_jsD 9300 45 [.sc (.int .i64 v12.kind),.sc (.str v12.name),.sc (.int .i64 v12.n),.ow 3 (v12.scopes.map rI),.ow 37 (v13.2.map (Form.rowD 3 37))] V12 (row:=(Form.rowD 3 37)) (hj:=by rw [(Form.rowDE _ _ _)];rfl) (hf:=by rw [(Form.rowDE _ _ _)];rfl) ?_
 refine zgA 9300 (row:=(Form.rowD 3 37)) (fs:=[.sc (.int .i64 v12.kind),.sc (.str v12.name),.sc (.int .i64 v12.n),.ow 3 (v12.scopes.map rI),.ow 37 (v13.2.map (Form.rowD 3 37))]) (Form.mk v12.kind v12.name v12.n v12.scopes v13.2) (Form.rowDE _ _ _) ?_
 refine za ?_
 refine s_mv ?_
 refine zE rfl ?_
 refine s_as ?_
 refine zf ?_
 exact s_rn (fu,v13.1,(w64 (g2+1)),(((((g3.set g2.toNat (Form.mk g1 v6.name v6.n v6.scopes v6.kids)).set g2.toNat (Form.mk v8.kind v7 v8.n v8.scopes v8.kids)).set g2.toNat (Form.mk v9.kind v9.name (w64 ((w64 (g1+1))+1)) v9.scopes v9.kids)).set g2.toNat (Form.mk v10.kind v10.name v10.n v11.2 v10.kids)).set g2.toNat (Form.mk v12.kind v12.name v12.n v12.scopes v13.2))) ⟨by first | omega | (dsimp only;omega),F10⟩
 refine zA (zr (zp (zu (zd (zb (za ?_))))))
 refine s_mv ?_
 refine s_as ?_
 refine zf (zd (zh (zo ?_)))
 cases F2
 exact zk _ [] Tryz.results20
end Go.Abs
