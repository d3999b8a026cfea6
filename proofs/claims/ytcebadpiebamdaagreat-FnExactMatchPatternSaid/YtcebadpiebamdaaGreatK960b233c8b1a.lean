/- A part of the proof: what the functions that the law calls answer, as pure values. -/
import Derived.Test.YtcebadpiebamdaaGreatK006dda84d553
import Derived.Test.YtcebadpiebamdaaGreatK863b9396a6d1
import Derived.Test.YtcebadpiebamdaaGreatK0c09c3f6594f
set_option linter.unusedSimpArgs false
set_option linter.unusedVariables false
set_option maxRecDepth 100000
set_option maxHeartbeats 4000000
namespace Go.Abs
open Go.Proofs
def m_laws_szIntS_AC (fuel:Nat):Prop:=∀ (x1:(List Int)) (x2:Int) (r:Int),zeG fuel x1 x2=some r→AC Tryz.prog 40 [.t (.sl (x1.map rI)),.t (.sc (.int .i64 x2))] noOb (.t (.sc (.int .i64 r))) noOb
theorem m_laws_szIntS_ok (fuel:Nat):m_laws_szIntS_AC fuel:=by
 intro x1 x2 r F0
 unfold zeG at F0
 refine AC_i [.t (.sc (.int .i64 r))] Tryz.func40 rfl Tryz.ntmps40 ?_
 intro C hC
 refine zb (za ?_)
 refine s_as ?_
 refine zf (zd (zb (za ?_)))
 refine s_mv ?_
 refine s_mv ?_
 refine zB yU23 ?_
 refine zfZ rfl ?_
 refine s_as ?_
 refine zf (zd (zb (zb (za ?_))))
 refine s_mv ?_
 refine s_lt ?_
 refine zf (zd ?_)
 refine zn F0 ?_ ?_<;>intro C1 F1
 refine zb (za ?_)
 refine s_as ?_
 refine zf (zd (zh (zg (zo ?_))))
 cases F1
 exact zk [] [] Tryz.results40
 refine zi (zd (zb (za ?_)))
 refine s_mv ?_
 refine s_as ?_
 refine zf (zd (zh (zo ?_)))
 cases F1
 exact zk [] [] Tryz.results40
def m_laws_szBind_AC (fuel:Nat):Prop:=∀ (x1:Bind) (x2:Int) (r:Int),zeH fuel x1 x2=some r→AC Tryz.prog 39 [.ag [.t (.sc (.str x1.name)),.t (.sl (x1.scopes.map rI)),.t (.sc (.int .i64 x1.id))],.t (.sc (.int .i64 x2))] noOb (.t (.sc (.int .i64 r))) noOb
theorem m_laws_szBind_ok (fuel:Nat):m_laws_szBind_AC fuel:=by
 intro x1 x2 r F0
 unfold zeH at F0
 refine AC_i [.t (.sc (.int .i64 r))] Tryz.func39 rfl Tryz.ntmps39 ?_
 intro C hC
 refine zb (za ?_)
 refine zbo ?_
 refine s_as ?_
 refine zf (zd (zb (za ?_)))
 refine s_mv ?_
 refine s_fa yF77_0 ?_
 refine zq yA9 ?_
 refine s_lenS yU9 ?_
 refine zfZ rfl ?_
 refine s_as ?_
 refine zf (zd (zb (zb (za ?_))))
 refine s_mv ?_
 refine s_lt ?_
 refine zf (zd ?_)
 refine zn F0 ?_ ?_<;>intro C1 F1
 refine zb (za ?_)
 refine s_as ?_
 refine zf (zd (zh (zg (zo ?_))))
 cases F1
 exact zk [] [] Tryz.results39
 refine zi (zd (zb (za ?_)))
 refine s_fa yF77_1 ?_
 refine zq yA23 ?_
 refine s_mv ?_
 obtain ⟨v2,V2,F2⟩:=zc F1
 refine zy [] (m_laws_szIntS_ok fuel _ _ _ V2) ?_
 refine s_as ?_
 refine zf (zd (zb (zb (za ?_))))
 refine s_mv ?_
 refine s_lt ?_
 refine zf (zd ?_)
 refine zn F2 ?_ ?_<;>intro C3 F3
 refine zb (za ?_)
 refine s_as ?_
 refine zf (zd (zh (zg (zo ?_))))
 cases F3
 exact zk [] [] Tryz.results39
 refine zi (zd (zb (za ?_)))
 refine s_mv ?_
 refine s_as ?_
 refine zf (zd (zh (zo ?_)))
 cases F3
 exact zk [] [] Tryz.results39
def m_laws_szBindS_AC (fuel:Nat):Prop:=∀ (x1:(List Bind)) (x2:Int) (r:Int),zeT fuel x1 x2=some r→AC Tryz.prog 6 [.t (.sl (x1.map Bind.row)),.t (.sc (.int .i64 x2))] noOb (.t (.sc (.int .i64 r))) noOb
theorem m_laws_szBindS_ok (fuel:Nat):m_laws_szBindS_AC fuel:=by
 intro x1 x2 r F0
 unfold zeT at F0
 refine AC_i [.t (.sc (.int .i64 r))] Tryz.func6 rfl Tryz.ntmps6 ?_
 intro C hC
 refine zb (za ?_)
 refine s_as ?_
 refine zf (zd (zb (za ?_)))
 refine s_mv ?_
 refine s_mv ?_
 refine zB yU22 ?_
 refine zfZ rfl ?_
 refine s_as ?_
 refine zf (zd (zb (zb (za ?_))))
 refine s_mv ?_
 refine s_lt ?_
 refine zf (zd ?_)
 refine zn F0 ?_ ?_<;>intro C1 F1
 refine zb (za ?_)
 refine s_as ?_
 refine zf (zd (zh (zg (zo ?_))))
 cases F1
 exact zk [] [] Tryz.results6
 refine zi (zd (zb (zb (za ?_))))
 refine s_as ?_
 refine zf (zd (zl ?_))
 refine zaE (β:=Int × Int) [1,4,5,12,13,14,15,16,17,18,19,20,21,22,23,24,25] [] [] (fun a=>[(1,.t (.sc (.int .i64 a.2.1))),(5,.t (.sc (.int .i64 a.2.2)))]) (fun a=>[]) (fun a=>a.1≤fuel∧zb1 a.1 x1 a.2.1 a.2.2=some r∧0≤a.2.2) (fuel,(w64 (x2-(x1.length:Int))),0) ⟨Nat.le_refl _,F1,by simp⟩ ?_
 clear F1
 rintro ⟨fu,g2,g3⟩ ⟨hl4,F2,hn_g3⟩
 dsimp only at hl4 F2 hn_g3 ⊢
 obtain _ | fu:=fu
 · rw [zb1] at F2;cases F2
 rw [zb1] at F2
 refine zb (zb (za ?_))
 refine s_mv ?_
 refine s_mv ?_
 refine zB yU22 ?_
 refine s_lt ?_
 refine zf (zd ?_)
 refine zn F2 ?_ ?_<;>intro C5 F3
 refine zH 0 (fun B6=>?_)
 refine zi (zd (zb (zl (zb (za ?_)))))
 refine s_mv ?_
 refine s_mv ?_
 obtain ⟨v7,V7,F4⟩:=zc F3
 refine zN Bind.row V7 (Bind.row_eq _) yE22 ?_
 refine zaI yA77 yS77 ?_
 refine s_mv ?_
 obtain ⟨v8,V8,F5⟩:=zc F4
 refine zy [] (m_laws_szBind_ok fu _ _ _ V8) ?_
 refine s_as ?_
 refine zf (zd (zb (za ?_)))
 refine s_mv ?_
 refine s_lt ?_
 refine zf (zd ?_)
 refine zn F5 ?_ ?_<;>intro C9 F6
 refine zb (za ?_)
 refine s_as ?_
 refine zf (zd (zh (zj (zg (zv (zj (zg (zo ?_))))))))
 cases F6
 exact zk [] [] Tryz.results6
 refine zi (zY (zd (za ?_)))
 refine s_mv ?_
 refine zE (zaF C5 B6 hn_g3) ?_
 refine s_as ?_
 refine zf ?_
 exact s_rn (fu,v8,(g3+1)) ⟨by first | omega | (dsimp only;omega),F6,by first | omega | (dsimp only;omega)⟩
 refine zA (zr (zp (zu (zd (zb (za ?_))))))
 refine s_mv ?_
 refine s_as ?_
 refine zf (zd (zh (zo ?_)))
 cases F3
 exact zk [] [] Tryz.results6
def zd9 (fuel:Nat):Prop:=∀ (x1:Form) (x2:Int) (r:Int),zcT fuel x1 x2=some r→AC Tryz.prog 7 [.ag [.t (.sc (.int .i64 x1.kind)),.t (.sc (.str x1.name)),.t (.sc (.int .i64 x1.n)),.t (.sl (x1.scopes.map rI)),.t (.sl (x1.kids.map Form.row))],.t (.sc (.int .i64 x2))] noOb (.t (.sc (.int .i64 r))) noOb
def zdG (fuel:Nat):Prop:=∀ (x1:(List Form)) (x2:Int) (r:Int),zcY fuel x1 x2=some r→AC Tryz.prog 8 [.t (.sl (x1.map Form.row)),.t (.sc (.int .i64 x2))] noOb (.t (.sc (.int .i64 r))) noOb
theorem m_laws_szForm_st (fu:Nat) (ih_m_laws_szForm:∀ k,k≤fu→zd9 k) (ih_m_laws_szFormS:∀ k,k≤fu→zdG k):zd9 (fu+1):=by
 intro x1 x2 r F0
 rw [zcT] at F0
 refine AC_i [.t (.sc (.int .i64 r))] Tryz.func7 rfl Tryz.ntmps7 ?_
 intro C hC
 refine zb (za ?_)
 refine zbo ?_
 refine s_as ?_
 refine zf (zd (zb (za ?_)))
 refine s_mv ?_
 refine s_fa yF26_1 ?_
 refine zq yA9 ?_
 refine s_lenS yU9 ?_
 refine zfZ rfl ?_
 refine s_as ?_
 refine zf (zd (zb (zb (za ?_))))
 refine s_mv ?_
 refine s_lt ?_
 refine zf (zd ?_)
 refine zn F0 ?_ ?_<;>intro C1 F1
 refine zb (za ?_)
 refine s_as ?_
 refine zf (zd (zh (zg (zo ?_))))
 cases F1
 exact zk [] [] Tryz.results7
 refine zi (zd (zb (za ?_)))
 refine s_fa yF26_3 ?_
 refine zq yA23 ?_
 refine s_mv ?_
 obtain ⟨v2,V2,F2⟩:=zc F1
 refine zy [] (m_laws_szIntS_ok fu _ _ _ V2) ?_
 refine s_as ?_
 refine zf (zd (zb (zb (za ?_))))
 refine s_mv ?_
 refine s_lt ?_
 refine zf (zd ?_)
 refine zn F2 ?_ ?_<;>intro C3 F3
 refine zb (za ?_)
 refine s_as ?_
 refine zf (zd (zh (zg (zo ?_))))
 cases F3
 exact zk [] [] Tryz.results7
 refine zi (zd (zb (za ?_)))
 refine s_fa yF26_4 ?_
 refine zq yA24 ?_
 refine s_mv ?_
 obtain ⟨v4,V4,F4⟩:=zc F3
 refine zy [] (ih_m_laws_szFormS fu (by omega) _ _ _ V4) ?_
 refine s_as ?_
 refine zf (zd (zb (zb (za ?_))))
 refine s_mv ?_
 refine s_lt ?_
 refine zf (zd ?_)
 refine zn F4 ?_ ?_<;>intro C5 F5
 refine zb (za ?_)
 refine s_as ?_
 refine zf (zd (zh (zg (zo ?_))))
 cases F5
 exact zk [] [] Tryz.results7
 refine zi (zd (zb (za ?_)))
 refine s_mv ?_
 refine s_as ?_
 refine zf (zd (zh (zo ?_)))
 cases F5
 exact zk [] [] Tryz.results7
theorem m_laws_szFormS_st (fu:Nat) (ih_m_laws_szForm:∀ k,k≤fu→zd9 k) (ih_m_laws_szFormS:∀ k,k≤fu→zdG k):zdG (fu+1):=by
 intro x1 x2 r F0
 rw [zcY] at F0
 refine AC_i [.t (.sc (.int .i64 r))] Tryz.func8 rfl Tryz.ntmps8 ?_
 intro C hC
 refine zb (za ?_)
 refine s_as ?_
 refine zf (zd (zb (za ?_)))
 refine s_mv ?_
 refine s_mv ?_
 refine zB yU24 ?_
 refine zfZ rfl ?_
 refine s_as ?_
 refine zf (zd (zb (zb (za ?_))))
 refine s_mv ?_
 refine s_lt ?_
 refine zf (zd ?_)
 refine zn F0 ?_ ?_<;>intro C1 F1
 refine zb (za ?_)
 refine s_as ?_
 refine zf (zd (zh (zg (zo ?_))))
 cases F1
 exact zk [] [] Tryz.results8
 refine zi (zd (zb (zb (za ?_))))
 refine s_as ?_
 refine zf (zd (zl ?_))
 refine zaE (β:=Int × Int) [1,4,5,12,13,14,15,16,17,18,19,20,21,22,23,24,25] [] [] (fun a=>[(1,.t (.sc (.int .i64 a.2.1))),(5,.t (.sc (.int .i64 a.2.2)))]) (fun a=>[]) (fun a=>a.1≤fu∧zaO a.1 x1 a.2.1 a.2.2=some r∧0≤a.2.2) (fu,(w64 (x2-(x1.length:Int))),0) ⟨Nat.le_refl _,F1,by simp⟩ ?_
 clear F1
 rintro ⟨fu,g2,g3⟩ ⟨hl4,F2,hn_g3⟩
 dsimp only at hl4 F2 hn_g3 ⊢
 obtain _ | fu:=fu
 · rw [zaO] at F2;cases F2
 rw [zaO] at F2
 refine zb (zb (za ?_))
 refine s_mv ?_
 refine s_mv ?_
 refine zB yU24 ?_
 refine s_lt ?_
 refine zf (zd ?_)
 refine zn F2 ?_ ?_<;>intro C5 F3
 refine zH 0 (fun B6=>?_)
 refine zi (zd (zb (zl (zb (za ?_)))))
 refine s_mv ?_
 refine s_mv ?_
 obtain ⟨v7,V7,F4⟩:=zc F3
 refine zN Form.row V7 (Form.row_eq _) yE24 ?_
 refine zaI yA26 yS26 ?_
 refine s_mv ?_
 obtain ⟨v8,V8,F5⟩:=zc F4
 refine zy [] (ih_m_laws_szForm fu (by omega) _ _ _ V8) ?_
 refine s_as ?_
 refine zf (zd (zb (za ?_)))
 refine s_mv ?_
 refine s_lt ?_
 refine zf (zd ?_)
 refine zn F5 ?_ ?_<;>intro C9 F6
 refine zb (za ?_)
 refine s_as ?_
 refine zf (zd (zh (zj (zg (zv (zj (zg (zo ?_))))))))
 cases F6
 exact zk [] [] Tryz.results8
 refine zi (zY (zd (za ?_)))
 refine s_mv ?_
 refine zE (zaF C5 B6 hn_g3) ?_
 refine s_as ?_
 refine zf ?_
 exact s_rn (fu,v8,(g3+1)) ⟨by first | omega | (dsimp only;omega),F6,by first | omega | (dsimp only;omega)⟩
 refine zA (zr (zp (zu (zd (zb (za ?_))))))
 refine s_mv ?_
 refine s_as ?_
 refine zf (zd (zh (zo ?_)))
 cases F3
 exact zk [] [] Tryz.results8
theorem zg4 (fuel:Nat):zd9 fuel∧zdG fuel:=by
 induction fuel using Nat.strongRecOn with
 | _ N ih =>
   cases N with
   | zero=>exact ⟨(by intro x1 x2 r h;rw [zcT] at h;cases h),(by intro x1 x2 r h;rw [zcY] at h;cases h)⟩
   | succ fu=>exact ⟨m_laws_szForm_st fu (fun k hk=>(ih k (by omega)).1) (fun k hk=>(ih k (by omega)).2),m_laws_szFormS_st fu (fun k hk=>(ih k (by omega)).1) (fun k hk=>(ih k (by omega)).2)⟩
theorem m_laws_szForm_ok (fuel:Nat):zd9 fuel:=(zg4 fuel).1
theorem m_laws_szFormS_ok (fuel:Nat):zdG fuel:=(zg4 fuel).2
def m_laws_toIntS_AC (fuel:Nat):Prop:=∀ (x1:(List Int)) (r:(List Int)),zdg fuel x1=some r→AC Tryz.prog 47 [.t (.sl (x1.map rI))] noOb (.t (.sl (r.map rI))) noOb
theorem m_laws_toIntS_ok (fuel:Nat):m_laws_toIntS_AC fuel:=by
 intro x1 r F0
 unfold zdg at F0
 refine AC_i [.t (.sl (r.map rI))] Tryz.func47 rfl Tryz.ntmps47 ?_
 intro C hC
 refine zb (za ?_)
 refine s_as ?_
 refine zf (zd (zb (za ?_)))
 refine s_mv ?_
 refine zB yU23 ?_
 obtain ⟨hk1,F1⟩:=zat F0
 refine s_mk rI 0 rfl hk1 yP23 yR3 ?_
 refine s_as ?_
 refine zf (zd (zb (zb (za ?_))))
 refine s_as ?_
 refine zf (zd (zl ?_))
 refine zaE (β:=Int × (List Int)) [4,8,9,10,11,12,13,14,15,16,17,18,19,20] [7] [] (fun a=>[(4,.t (.sc (.int .i64 a.2.1)))]) (fun a=>[(7,.arr (a.2.2.map rI) 3 true)]) (fun a=>a.1≤fuel∧zbA a.1 x1 a.2.1 a.2.2=some r∧0≤a.2.1) (fuel,0,(List.replicate (x1.length:Int).toNat 0)) ⟨Nat.le_refl _,F1,by simp⟩ ?_
 clear F1
 rintro ⟨fu,g2,g3⟩ ⟨hl4,F2,hn_g2⟩
 dsimp only at hl4 F2 hn_g2 ⊢
 obtain _ | fu:=fu
 · rw [zbA] at F2;cases F2
 rw [zbA] at F2
 refine zb (zb (za ?_))
 refine s_mv ?_
 refine s_mv ?_
 refine zB yU23 ?_
 refine s_lt ?_
 refine zf (zd ?_)
 refine zn F2 ?_ ?_<;>intro C5 F3
 refine zH 0 (fun B6=>?_)
 refine zi (zd (zb (zl (za ?_))))
 iterate 4 refine s_mv ?_
 obtain ⟨v7,V7,F4⟩:=zc F3
 refine zN rI V7 rfl yE23 ?_
 refine zq yA3 ?_
 obtain ⟨v8,V8,F5⟩:=zc F4
 refine s_ixA rI V8 yE23 ?_
 refine s_stA rI v7 V8 rfl rfl yS3 yS3 ?_
 refine zf (zY (zd (za ?_)))
 refine s_mv ?_
 refine zE (zaF C5 B6 hn_g2) ?_
 refine s_as ?_
 refine zf ?_
 exact s_rn (fu,(g2+1),(g3.set g2.toNat v7)) ⟨by first | omega | (dsimp only;omega),F5,by first | omega | (dsimp only;omega)⟩
 refine zA (zr (zp (zu (zd (zb (za ?_))))))
 refine s_mv ?_
 refine s_as ?_
 refine zf (zd (zh (zo ?_)))
 cases F3
 exact zk [] [7] Tryz.results47
def m_laws_toBind_AC (fuel:Nat):Prop:=∀ (x1:Bind) (r:Bind),zdi fuel x1=some r→AC Tryz.prog 46 [.ag [.t (.sc (.str x1.name)),.t (.sl (x1.scopes.map rI)),.t (.sc (.int .i64 x1.id))]] noOb (.ag [.t (.sc (.str r.name)),.t (.sl (r.scopes.map rI)),.t (.sc (.int .i64 r.id))]) noOb
theorem m_laws_toBind_ok (fuel:Nat):m_laws_toBind_AC fuel:=by
 intro x1 r F0
 unfold zdi at F0
 refine AC_i [.ag [.t (.sc (.str r.name)),.t (.sl (r.scopes.map rI)),.t (.sc (.int .i64 r.id))]] Tryz.func46 rfl Tryz.ntmps46 ?_
 intro C hC
 refine zb (za ?_)
 refine zbo ?_
 refine zaN yZ83 ?_
 refine zf (zd (zb (za ?_)))
 refine zaN yZ83 ?_
 refine zf (zd (zb (za ?_)))
 refine s_fa yF77_0 ?_
 refine zq yA9 ?_
 refine s_fa zgX ?_
 refine zgT yS9 ?_
 refine zf (zd (zb (za ?_)))
 refine s_fa yF77_1 ?_
 refine zq yA23 ?_
 obtain ⟨v1,V1,F1⟩:=zc F0
 refine zy [] (m_laws_toIntS_ok fuel _ _ V1) ?_
 refine s_fa zfY ?_
 refine zgT yS23 ?_
 refine zf (zd (zb (za ?_)))
 refine s_fa yF77_2 ?_
 refine zq yA3 ?_
 refine s_fa yF83_2 ?_
 refine zgT yS3 ?_
 refine zf (zd (zb (za ?_)))
 refine z6 yA83 yS83 ?_
 refine zde yS83 ?_
 refine zf (zd (zh (zo ?_)))
 cases F1
 exact zgl [] [] (by rw [Tryz.results46];exact (res_agg (by conv=>lhs;whnf) (by conv=>lhs;whnf) yA83 yS83 rfl zfp))
def m_laws_toBindS_AC (fuel:Nat):Prop:=∀ (x1:(List Bind)) (r:(List Bind)),zb2 fuel x1=some r→AC Tryz.prog 10 [.t (.sl (x1.map Bind.row))] noOb (.t (.sl (r.map Bind.row))) noOb
theorem zfS (fuel:Nat):m_laws_toBindS_AC fuel:=by
 intro x1 r F0
 unfold zb2 at F0
 refine AC_i [.t (.sl (r.map Bind.row))] Tryz.func10 rfl Tryz.ntmps10 ?_
 intro C hC
 refine zb (za ?_)
 refine s_as ?_
 refine zf (zd (zb (za ?_)))
 refine s_mv ?_
 refine zB yU22 ?_
 obtain ⟨hk1,F1⟩:=zat F0
 refine s_mk Bind.row (Bind.mk (⟨#[]⟩:ByteArray) ([]:List Int) 0) (Bind.row_eq _) hk1 yP33 yR83 ?_
 refine s_as ?_
 refine zf (zd (zb (zb (za ?_))))
 refine s_as ?_
 refine zf (zd (zl ?_))
 refine zaE (β:=Int × (List Bind)) [4,8,9,10,11,12,13,14,15,16,17,18,19,20,21] [7] [] (fun a=>[(4,.t (.sc (.int .i64 a.2.1)))]) (fun a=>[(7,.arr (a.2.2.map Bind.row) 83 true)]) (fun a=>a.1≤fuel∧za6 a.1 x1 a.2.1 a.2.2=some r∧0≤a.2.1) (fuel,0,(List.replicate (x1.length:Int).toNat (Bind.mk (⟨#[]⟩:ByteArray) ([]:List Int) 0))) ⟨Nat.le_refl _,F1,by simp⟩ ?_
 clear F1
 rintro ⟨fu,g2,g3⟩ ⟨hl4,F2,hn_g2⟩
 dsimp only at hl4 F2 hn_g2 ⊢
 obtain _ | fu:=fu
 · rw [za6] at F2;cases F2
 rw [za6] at F2
 refine zb (zb (za ?_))
 refine s_mv ?_
 refine s_mv ?_
 refine zB yU22 ?_
 refine s_lt ?_
 refine zf (zd ?_)
 refine zn F2 ?_ ?_<;>intro C5 F3
 refine zH 0 (fun B6=>?_)
 refine zi (zd (zb (zl (za ?_))))
 iterate 4 refine s_mv ?_
 obtain ⟨v7,V7,F4⟩:=zc F3
 refine zN Bind.row V7 (Bind.row_eq _) yE22 ?_
 refine zaI yA77 yS77 ?_
 obtain ⟨v8,V8,F5⟩:=zc F4
 refine zy [] (m_laws_toBind_ok fu _ _ V8) ?_
 obtain ⟨v9,V9,F6⟩:=zc F5
 refine s_ixA Bind.row V9 yE33 ?_
 refine s_stA Bind.row v8 V9 (Bind.row_eq _) (Bind.row_eq _) yS83 yS83 ?_
 refine zf (zY (zd (za ?_)))
 refine s_mv ?_
 refine zE (zaF C5 B6 hn_g2) ?_
 refine s_as ?_
 refine zf ?_
 exact s_rn (fu,(g2+1),(g3.set g2.toNat v8)) ⟨by first | omega | (dsimp only;omega),F6,by first | omega | (dsimp only;omega)⟩
 refine zA (zr (zp (zu (zd (zb (za ?_))))))
 refine s_mv ?_
 refine s_as ?_
 refine zf (zd (zh (zo ?_)))
 cases F3
 exact zk [] [7] Tryz.results10
def zd8 (fuel:Nat):Prop:=∀ (x1:Form) (r:Form),zaf fuel x1=some r→AC Tryz.prog 11 [.ag [.t (.sc (.int .i64 x1.kind)),.t (.sc (.str x1.name)),.t (.sc (.int .i64 x1.n)),.t (.sl (x1.scopes.map rI)),.t (.sl (x1.kids.map Form.row))]] noOb (.ag [.t (.sc (.int .i64 r.kind)),.t (.sc (.str r.name)),.t (.sc (.int .i64 r.n)),.t (.sl (r.scopes.map rI)),.t (.sl (r.kids.map Form.row))]) noOb
def zdF (fuel:Nat):Prop:=∀ (x1:(List Form)) (r:(List Form)),zaS fuel x1=some r→AC Tryz.prog 12 [.t (.sl (x1.map Form.row))] noOb (.t (.sl (r.map Form.row))) noOb
theorem m_laws_toForm_st (fu:Nat) (ih_m_laws_toForm:∀ k,k≤fu→zd8 k) (ih_m_laws_toFormS:∀ k,k≤fu→zdF k):zd8 (fu+1):=by
 intro x1 r F0
 rw [zaf] at F0
 refine AC_i [.ag [.t (.sc (.int .i64 r.kind)),.t (.sc (.str r.name)),.t (.sc (.int .i64 r.n)),.t (.sl (r.scopes.map rI)),.t (.sl (r.kids.map Form.row))]] Tryz.func11 rfl Tryz.ntmps11 ?_
 intro C hC
 refine zb (za ?_)
 refine zbo ?_
 refine zaN yZ37 ?_
 refine zf (zd (zb (za ?_)))
 refine zaN yZ37 ?_
 refine zf (zd (zb (za ?_)))
 refine s_fa yF26_0 ?_
 refine zq yA3 ?_
 refine s_fa zcD ?_
 refine zgT yS3 ?_
 refine zf (zd (zb (za ?_)))
 refine s_fa yF26_1 ?_
 refine zq yA9 ?_
 refine s_fa zbC ?_
 refine zgT yS9 ?_
 refine zf (zd (zb (za ?_)))
 refine s_fa yF26_2 ?_
 refine zq yA3 ?_
 refine s_fa zeg ?_
 refine zgT yS3 ?_
 refine zf (zd (zb (za ?_)))
 refine s_fa yF26_3 ?_
 refine zq yA23 ?_
 obtain ⟨v1,V1,F1⟩:=zc F0
 refine zy [] (m_laws_toIntS_ok fu _ _ V1) ?_
 refine s_fa zdR ?_
 refine zgT yS23 ?_
 refine zf (zd (zb (za ?_)))
 refine s_fa yF26_4 ?_
 refine zq yA24 ?_
 obtain ⟨v2,V2,F2⟩:=zc F1
 refine zy [] (ih_m_laws_toFormS fu (by omega) _ _ V2) ?_
 refine s_fa zJ ?_
 refine zgT yS35 ?_
 refine zf (zd (zb (za ?_)))
 refine z6 yA37 yS37 ?_
 refine zde yS37 ?_
 refine zf (zd (zh (zo ?_)))
 cases F2
 exact zgl [] [] (by rw [Tryz.results11];exact (res_agg (by conv=>lhs;whnf) (by conv=>lhs;whnf) yA37 yS37 rfl zfp))
theorem m_laws_toFormS_st (fu:Nat) (ih_m_laws_toForm:∀ k,k≤fu→zd8 k) (ih_m_laws_toFormS:∀ k,k≤fu→zdF k):zdF (fu+1):=by
 intro x1 r F0
 rw [zaS] at F0
 refine AC_i [.t (.sl (r.map Form.row))] Tryz.func12 rfl Tryz.ntmps12 ?_
 intro C hC
 refine zb (za ?_)
 refine s_as ?_
 refine zf (zd (zb (za ?_)))
 refine s_mv ?_
 refine zB yU24 ?_
 obtain ⟨hk1,F1⟩:=zat F0
 refine s_mk Form.row (Form.mk 0 (⟨#[]⟩:ByteArray) 0 ([]:List Int) ([]:List Form)) (Form.row_eq _) hk1 yP35 yR37 ?_
 refine s_as ?_
 refine zf (zd (zb (zb (za ?_))))
 refine s_as ?_
 refine zf (zd (zl ?_))
 refine zaE (β:=Int × (List Form)) [4,8,9,10,11,12,13,14,15,16,17,18,19,20,21] [7] [] (fun a=>[(4,.t (.sc (.int .i64 a.2.1)))]) (fun a=>[(7,.arr (a.2.2.map Form.row) 37 true)]) (fun a=>a.1≤fu∧zaw a.1 x1 a.2.1 a.2.2=some r∧0≤a.2.1) (fu,0,(List.replicate (x1.length:Int).toNat (Form.mk 0 (⟨#[]⟩:ByteArray) 0 ([]:List Int) ([]:List Form)))) ⟨Nat.le_refl _,F1,by simp⟩ ?_
 clear F1
 rintro ⟨fu,g2,g3⟩ ⟨hl4,F2,hn_g2⟩
 dsimp only at hl4 F2 hn_g2 ⊢
 obtain _ | fu:=fu
 · rw [zaw] at F2;cases F2
 rw [zaw] at F2
 refine zb (zb (za ?_))
 refine s_mv ?_
 refine s_mv ?_
 refine zB yU24 ?_
 refine s_lt ?_
 refine zf (zd ?_)
 refine zn F2 ?_ ?_<;>intro C5 F3
 refine zH 0 (fun B6=>?_)
 refine zi (zd (zb (zl (za ?_))))
 iterate 4 refine s_mv ?_
 obtain ⟨v7,V7,F4⟩:=zc F3
 refine zN Form.row V7 (Form.row_eq _) yE24 ?_
 refine zaI yA26 yS26 ?_
 obtain ⟨v8,V8,F5⟩:=zc F4
 refine zy [] (ih_m_laws_toForm fu (by omega) _ _ V8) ?_
 obtain ⟨v9,V9,F6⟩:=zc F5
 refine s_ixA Form.row V9 yE35 ?_
 refine s_stA Form.row v8 V9 (Form.row_eq _) (Form.row_eq _) yS37 yS37 ?_
 refine zf (zY (zd (za ?_)))
 refine s_mv ?_
 refine zE (zaF C5 B6 hn_g2) ?_
 refine s_as ?_
 refine zf ?_
 exact s_rn (fu,(g2+1),(g3.set g2.toNat v8)) ⟨by first | omega | (dsimp only;omega),F6,by first | omega | (dsimp only;omega)⟩
 refine zA (zr (zp (zu (zd (zb (za ?_))))))
 refine s_mv ?_
 refine s_as ?_
 refine zf (zd (zh (zo ?_)))
 cases F3
 exact zk [] [7] Tryz.results12
theorem zg3 (fuel:Nat):zd8 fuel∧zdF fuel:=by
 induction fuel using Nat.strongRecOn with
 | _ N ih =>
   cases N with
   | zero=>exact ⟨(by intro x1 r h;rw [zaf] at h;cases h),(by intro x1 r h;rw [zaS] at h;cases h)⟩
   | succ fu=>exact ⟨m_laws_toForm_st fu (fun k hk=>(ih k (by omega)).1) (fun k hk=>(ih k (by omega)).2),m_laws_toFormS_st fu (fun k hk=>(ih k (by omega)).1) (fun k hk=>(ih k (by omega)).2)⟩
theorem zda (fuel:Nat):zd8 fuel:=(zg3 fuel).1
theorem zfR (fuel:Nat):zdF fuel:=(zg3 fuel).2
def m_spec_l1Letter_AC (fuel:Nat):Prop:=∀ (x1:Int) (x2:Bool) (r:Bool),zeq fuel x1 x2=some r→AC Tryz.prog 125 [.t (.sc (.int .u8 x1)),.t (.sc (.bool x2))] noOb (.t (.sc (.bool r))) noOb
theorem m_spec_l1Letter_ok (fuel:Nat):m_spec_l1Letter_AC fuel:=by
 intro x1 x2 r F0
 unfold zeq at F0
 refine AC_i [.t (.sc (.bool r))] Tryz.func125 rfl Tryz.ntmps125 ?_
 intro C hC
 refine zb (za ?_)
 refine s_as ?_
 refine zf (zd (zb (zb (za ?_))))
 refine s_mv ?_
 refine s_ge ?_
 refine s_mv ?_
 refine zx _ 7 F0 ?_ ?_<;>intro C1 F1
 refine s_mv ?_
 refine s_le ?_
 refine zC ?_
 refine s_mv ?_
 refine zx _ 11 F1 ?_ ?_<;>intro C2 F2
 refine r_no rfl (r_no rfl ?_)
 refine zC ?_
 refine s_mv ?_
 refine r_no rfl (r_no rfl ?_)
 refine zC ?_
 refine s_mv ?_
 refine r_no rfl (r_no rfl ?_)
 refine zC ?_
 refine s_mv ?_
 refine r_no rfl (r_no rfl ?_)
 refine zC ?_
 refine s_mv ?_
 refine r_no rfl (r_no rfl ?_)
 refine zC ?_
 refine zf (zd (zaa rfl (zb (za ?_))))
 refine s_as ?_
 refine zf (zd (zh (zg (zo ?_))))
 cases F2
 exact zk [] [] Tryz.results125
 refine s_mv ?_
 refine s_eq ?_
 refine zD ?_
 refine s_mv ?_
 refine zx _ 15 F2 ?_ ?_<;>intro C3 F3
 refine r_no rfl (r_no rfl ?_)
 refine zC ?_
 refine s_mv ?_
 refine r_no rfl (r_no rfl ?_)
 refine zC ?_
 refine s_mv ?_
 refine r_no rfl (r_no rfl ?_)
 refine zC ?_
 refine s_mv ?_
 refine r_no rfl (r_no rfl ?_)
 refine zC ?_
 refine zf (zd (zaa rfl (zb (za ?_))))
 refine s_as ?_
 refine zf (zd (zh (zg (zo ?_))))
 cases F3
 exact zk [] [] Tryz.results125
 refine s_mv ?_
 refine s_eq ?_
 refine zD ?_
 refine s_mv ?_
 refine zx _ 19 F3 ?_ ?_<;>intro C4 F4
 refine r_no rfl (r_no rfl ?_)
 refine zC ?_
 refine s_mv ?_
 refine r_no rfl (r_no rfl ?_)
 refine zC ?_
 refine s_mv ?_
 refine r_no rfl (r_no rfl ?_)
 refine zC ?_
 refine zf (zd (zaa rfl (zb (za ?_))))
 refine s_as ?_
 refine zf (zd (zh (zg (zo ?_))))
 cases F4
 exact zk [] [] Tryz.results125
 refine s_mv ?_
 refine s_eq ?_
 refine zD ?_
 refine s_mv ?_
 refine zx _ 23 F4 ?_ ?_<;>intro C5 F5
 refine r_no rfl (r_no rfl ?_)
 refine zC ?_
 refine s_mv ?_
 refine r_no rfl (r_no rfl ?_)
 refine zC ?_
 refine zf (zd (zaa rfl (zb (za ?_))))
 refine s_as ?_
 refine zf (zd (zh (zg (zo ?_))))
 cases F5
 exact zk [] [] Tryz.results125
 refine s_mv ?_
 refine s_eq ?_
 refine zD ?_
 refine s_mv ?_
 refine zx _ 27 F5 ?_ ?_<;>intro C6 F6
 refine r_no rfl (r_no rfl ?_)
 refine zC ?_
 refine zf (zd (zaa rfl (zb (za ?_))))
 refine s_as ?_
 refine zf (zd (zh (zg (zo ?_))))
 cases F6
 exact zk [] [] Tryz.results125
 refine s_mv ?_
 refine s_eq ?_
 refine zD ?_
 refine zf (zd ?_)
 refine zn F6 ?_ ?_<;>intro C7 F7
 refine zb (za ?_)
 refine s_as ?_
 refine zf (zd (zh (zg (zo ?_))))
 cases F7
 exact zk [] [] Tryz.results125
 refine zi (zd (zb (za ?_)))
 refine s_mv ?_
 refine zbh ?_
 refine s_mv ?_
 refine zx _ 33 F7 ?_ ?_<;>intro C8 F8
 refine s_mv ?_
 refine s_ge ?_
 refine s_mv ?_
 refine zx _ 36 F8 ?_ ?_<;>intro C9 F9
 refine s_mv ?_
 refine s_le ?_
 refine zC ?_
 refine s_mv ?_
 refine zx _ 40 F9 ?_ ?_<;>intro C10 F10
 refine r_no rfl (r_no rfl ?_)
 refine zC ?_
 refine zC ?_
 refine s_as ?_
 refine zf (zd (zh (zo ?_)))
 cases F10
 exact zk [] [] Tryz.results125
 refine s_mv ?_
 refine s_eq ?_
 refine zD ?_
 refine zC ?_
 refine s_as ?_
 refine zf (zd (zh (zo ?_)))
 cases F10
 exact zk [] [] Tryz.results125
 refine r_no rfl (r_no rfl ?_)
 refine zD ?_
 refine s_mv ?_
 refine s_mv ?_
 refine s_eq ?_
 refine zD ?_
 refine zC ?_
 refine s_as ?_
 refine zf (zd (zh (zo ?_)))
 cases F9
 exact zk [] [] Tryz.results125
 iterate 10 refine r_no rfl ?_
 refine zD ?_
 refine s_as ?_
 refine zf (zd (zh (zo ?_)))
 cases F8
 exact zk [] [] Tryz.results125
 refine r_no rfl (r_no rfl ?_)
 refine zD ?_
 refine s_mv ?_
 refine s_mv ?_
 refine s_eq ?_
 refine zD ?_
 refine s_mv ?_
 refine zx _ 15 F1 ?_ ?_<;>intro C11 F2
 refine r_no rfl (r_no rfl ?_)
 refine zC ?_
 refine s_mv ?_
 refine r_no rfl (r_no rfl ?_)
 refine zC ?_
 refine s_mv ?_
 refine r_no rfl (r_no rfl ?_)
 refine zC ?_
 refine s_mv ?_
 refine r_no rfl (r_no rfl ?_)
 refine zC ?_
 refine zf (zd (zaa rfl (zb (za ?_))))
 refine s_as ?_
 refine zf (zd (zh (zg (zo ?_))))
 cases F2
 exact zk [] [] Tryz.results125
 refine s_mv ?_
 refine s_eq ?_
 refine zD ?_
 refine s_mv ?_
 refine zx _ 19 F2 ?_ ?_<;>intro C12 F3
 refine r_no rfl (r_no rfl ?_)
 refine zC ?_
 refine s_mv ?_
 refine r_no rfl (r_no rfl ?_)
 refine zC ?_
 refine s_mv ?_
 refine r_no rfl (r_no rfl ?_)
 refine zC ?_
 refine zf (zd (zaa rfl (zb (za ?_))))
 refine s_as ?_
 refine zf (zd (zh (zg (zo ?_))))
 cases F3
 exact zk [] [] Tryz.results125
 refine s_mv ?_
 refine s_eq ?_
 refine zD ?_
 refine s_mv ?_
 refine zx _ 23 F3 ?_ ?_<;>intro C13 F4
 refine r_no rfl (r_no rfl ?_)
 refine zC ?_
 refine s_mv ?_
 refine r_no rfl (r_no rfl ?_)
 refine zC ?_
 refine zf (zd (zaa rfl (zb (za ?_))))
 refine s_as ?_
 refine zf (zd (zh (zg (zo ?_))))
 cases F4
 exact zk [] [] Tryz.results125
 refine s_mv ?_
 refine s_eq ?_
 refine zD ?_
 refine s_mv ?_
 refine zx _ 27 F4 ?_ ?_<;>intro C14 F5
 refine r_no rfl (r_no rfl ?_)
 refine zC ?_
 refine zf (zd (zaa rfl (zb (za ?_))))
 refine s_as ?_
 refine zf (zd (zh (zg (zo ?_))))
 cases F5
 exact zk [] [] Tryz.results125
 refine s_mv ?_
 refine s_eq ?_
 refine zD ?_
 refine zf (zd ?_)
 refine zn F5 ?_ ?_<;>intro C15 F6
 refine zb (za ?_)
 refine s_as ?_
 refine zf (zd (zh (zg (zo ?_))))
 cases F6
 exact zk [] [] Tryz.results125
 refine zi (zd (zb (za ?_)))
 refine s_mv ?_
 refine zbh ?_
 refine s_mv ?_
 refine zx _ 33 F6 ?_ ?_<;>intro C16 F7
 refine s_mv ?_
 refine s_ge ?_
 refine s_mv ?_
 refine zx _ 36 F7 ?_ ?_<;>intro C17 F8
 refine s_mv ?_
 refine s_le ?_
 refine zC ?_
 refine s_mv ?_
 refine zx _ 40 F8 ?_ ?_<;>intro C18 F9
 refine r_no rfl (r_no rfl ?_)
 refine zC ?_
 refine zC ?_
 refine s_as ?_
 refine zf (zd (zh (zo ?_)))
 cases F9
 exact zk [] [] Tryz.results125
 refine s_mv ?_
 refine s_eq ?_
 refine zD ?_
 refine zC ?_
 refine s_as ?_
 refine zf (zd (zh (zo ?_)))
 cases F9
 exact zk [] [] Tryz.results125
 refine r_no rfl (r_no rfl ?_)
 refine zD ?_
 refine s_mv ?_
 refine s_mv ?_
 refine s_eq ?_
 refine zD ?_
 refine zC ?_
 refine s_as ?_
 refine zf (zd (zh (zo ?_)))
 cases F8
 exact zk [] [] Tryz.results125
 iterate 10 refine r_no rfl ?_
 refine zD ?_
 refine s_as ?_
 refine zf (zd (zh (zo ?_)))
 cases F7
 exact zk [] [] Tryz.results125
def m_spec_NameValid_AC (fuel:Nat):Prop:=∀ (x1:ByteArray) (r:Bool),zc9 fuel x1=some r→AC Tryz.prog 78 [.t (.sc (.str x1))] noOb (.t (.sc (.bool r))) noOb
theorem zgt (fuel:Nat):m_spec_NameValid_AC fuel:=by
 intro x1 r F0
 unfold zc9 at F0
 refine AC_i [.t (.sc (.bool r))] Tryz.func78 rfl Tryz.ntmps78 ?_
 intro C hC
 refine zb (za ?_)
 refine s_as ?_
 refine zf (zd (zb (zb (za ?_))))
 refine s_mv ?_
 refine zgj ?_
 refine s_mv ?_
 refine zx _ 6 F0 ?_ ?_<;>intro C1 F1
 refine r_no rfl (r_no rfl ?_)
 refine zC ?_
 refine zf (zd (zaa rfl (zb (za ?_))))
 refine s_as ?_
 refine zf (zd (zh (zg (zo ?_))))
 cases F1
 exact zk [] [] Tryz.results78
 refine s_mv ?_
 refine zgj ?_
 refine zD ?_
 refine zf (zd ?_)
 refine zn F1 ?_ ?_<;>intro C2 F2
 refine zb (za ?_)
 refine s_as ?_
 refine zf (zd (zh (zg (zo ?_))))
 cases F2
 exact zk [] [] Tryz.results78
 refine zi (zd (zb (zb (za ?_))))
 refine s_as ?_
 refine zf (zd (zl ?_))
 refine zaE (β:=Int) [2,3,10,11,12,13,14,15,16,17,18,19,20,21,22,23,24,25,26] [] [] (fun a=>[(3,.t (.sc (.int .i64 a.2)))]) (fun a=>[]) (fun a=>a.1≤fuel∧zbq a.1 x1 a.2=some r) (fuel,0) ⟨Nat.le_refl _,F2⟩ ?_
 clear F2
 rintro ⟨fu,g3⟩ ⟨hl4,F3⟩
 dsimp only at hl4 F3 ⊢
 obtain _ | fu:=fu
 · rw [zbq] at F3;cases F3
 rw [zbq] at F3
 refine zb (zb (za ?_))
 refine s_mv ?_
 refine s_mv ?_
 refine s_lenS yU9 ?_
 refine s_lt ?_
 refine s_mv ?_
 refine zx _ 14 F3 ?_ ?_<;>intro C5 F4
 refine s_mv ?_
 refine s_le ?_
 refine zC ?_
 refine zf (zd ?_)
 refine zn F4 ?_ ?_<;>intro C6 F5
 refine zi (zd (zb (zl (zb (za ?_)))))
 refine s_mv ?_
 refine s_mv ?_
 obtain ⟨v7,V7,F6⟩:=zc F5
 refine s_ixS V7 yU9 ?_
 refine s_mv ?_
 refine s_eq ?_
 obtain ⟨v8,V8,F7⟩:=zc F6
 refine zy [] (m_spec_l1Letter_ok fu _ _ _ V8) ?_
 refine zbh ?_
 refine zf (zd ?_)
 refine zn F7 ?_ ?_<;>intro C9 F8
 refine zb (za ?_)
 refine s_as ?_
 refine zf (zd (zh (zj (zg (zv (zj (zg (zo ?_))))))))
 cases F8
 exact zk [] [] Tryz.results78
 refine zi (zY (zd (za ?_)))
 refine s_mv ?_
 refine zE rfl ?_
 refine s_as ?_
 refine zf ?_
 exact s_rn (fu,(w64 (g3+1))) ⟨by first | omega | (dsimp only;omega),F8⟩
 refine zA (zr (zp (zu (zd (zb (za ?_))))))
 refine s_mv ?_
 refine s_lenS yU9 ?_
 refine s_ge ?_
 refine s_mv ?_
 refine zx _ 30 F5 ?_ ?_<;>intro C10 F6
 refine s_mv ?_
 refine s_lenS yU9 ?_
 refine s_le ?_
 refine zC ?_
 refine s_as ?_
 refine zf (zd (zh (zo ?_)))
 cases F6
 exact zk [] [] Tryz.results78
 iterate 3 refine r_no rfl ?_
 refine zD ?_
 refine s_as ?_
 refine zf (zd (zh (zo ?_)))
 cases F6
 exact zk [] [] Tryz.results78
 refine r_no rfl (r_no rfl ?_)
 refine zD ?_
 refine zf (zd (zcC rfl (zA (zr (zp (zu (zd (zb (za ?_)))))))))
 refine s_mv ?_
 refine s_lenS yU9 ?_
 refine s_ge ?_
 refine s_mv ?_
 refine zx _ 30 F4 ?_ ?_<;>intro C11 F5
 refine s_mv ?_
 refine s_lenS yU9 ?_
 refine s_le ?_
 refine zC ?_
 refine s_as ?_
 refine zf (zd (zh (zo ?_)))
 cases F5
 exact zk [] [] Tryz.results78
 iterate 3 refine r_no rfl ?_
 refine zD ?_
 refine s_as ?_
 refine zf (zd (zh (zo ?_)))
 cases F5
 exact zk [] [] Tryz.results78
def m_spec_l1Scopes_AC (fuel:Nat):Prop:=∀ (x1:(List Int)) (r:Bool),zdD fuel x1=some r→AC Tryz.prog 79 [.t (.sl (x1.map rI))] noOb (.t (.sc (.bool r))) noOb
theorem zgL (fuel:Nat):m_spec_l1Scopes_AC fuel:=by
 intro x1 r F0
 unfold zdD at F0
 refine AC_i [.t (.sc (.bool r))] Tryz.func79 rfl Tryz.ntmps79 ?_
 intro C hC
 refine zb (za ?_)
 refine s_as ?_
 refine zf (zd (zb (zb (za ?_))))
 refine s_as ?_
 refine zf (zd (zl ?_))
 refine zaE (β:=Int) [2,3,4,5,6,7,8,9,10,11,12,13,14,15,16,17,18,19,20,21,22,23,24,25,26,27,28,29,30,31,32,33,34,35,36,37,38,39,40,41] [] [] (fun a=>[(3,.t (.sc (.int .i64 a.2)))]) (fun a=>[]) (fun a=>a.1≤fuel∧zbi a.1 x1 a.2=some r) (fuel,0) ⟨Nat.le_refl _,F0⟩ ?_
 clear F0
 rintro ⟨fu,g1⟩ ⟨hl2,F1⟩
 dsimp only at hl2 F1 ⊢
 obtain _ | fu:=fu
 · rw [zbi] at F1;cases F1
 rw [zbi] at F1
 refine zb (zb (za ?_))
 refine s_mv ?_
 refine s_mv ?_
 refine zB yU23 ?_
 refine s_lt ?_
 refine s_mv ?_
 refine zx _ 8 F1 ?_ ?_<;>intro C3 F2
 refine s_mv ?_
 refine s_le ?_
 refine zC ?_
 refine zf (zd ?_)
 refine zn F2 ?_ ?_<;>intro C4 F3
 refine zi (zd (zb (zl (zb ?_))))
 refine zP yMix (by kernel_rfl) ?_
 refine s_mv ?_
 refine s_mv ?_
 obtain ⟨v5,V5,F4⟩:=zc F3
 refine zN rI V5 rfl yE23 ?_
 refine zq yA3 ?_
 refine s_lt ?_
 refine s_mv ?_
 refine zx _ 19 F4 ?_ ?_<;>intro C6 F5
 iterate 5 refine r_no rfl ?_
 refine zC ?_
 refine s_mv ?_
 iterate 14 refine r_no rfl ?_
 refine zC ?_
 refine zai (by kernel_rfl) ?_
 refine zd (zaa rfl (zb (za ?_)))
 refine s_as ?_
 refine zf (zd (zh (zj (zg (zv (zj (zg (zo ?_))))))))
 cases F5
 exact zk [] [] Tryz.results79
 refine s_mv ?_
 refine s_mv ?_
 obtain ⟨v7,V7,F6⟩:=zc F5
 refine zN rI V7 rfl yE23 ?_
 refine zq yA3 ?_
 refine s_gt ?_
 refine zD ?_
 refine s_mv ?_
 refine zx _ 26 F6 ?_ ?_<;>intro C8 F7
 iterate 14 refine r_no rfl ?_
 refine zC ?_
 refine zai (by kernel_rfl) ?_
 refine zd (zaa rfl (zb (za ?_)))
 refine s_as ?_
 refine zf (zd (zh (zj (zg (zv (zj (zg (zo ?_))))))))
 cases F7
 exact zk [] [] Tryz.results79
 refine s_mv ?_
 refine s_gt ?_
 refine s_mv ?_
 refine zx _ 29 F7 ?_ ?_<;>intro C9 F8
 refine s_mv ?_
 refine s_mv ?_
 obtain ⟨v10,V10,F9⟩:=zc F8
 refine zN rI V10 rfl yE23 ?_
 refine zq yA3 ?_
 refine s_mv ?_
 refine s_mv ?_
 refine zfZ rfl ?_
 obtain ⟨v11,V11,F10⟩:=zc F9
 refine zN rI V11 rfl yE23 ?_
 refine zq yA3 ?_
 refine s_le ?_
 refine zC ?_
 refine zD ?_
 refine zai (by kernel_rfl) ?_
 refine zd ?_
 refine zn F10 ?_ ?_<;>intro C12 F11
 refine zb (za ?_)
 refine s_as ?_
 refine zf (zd (zh (zj (zg (zv (zj (zg (zo ?_))))))))
 cases F11
 exact zk [] [] Tryz.results79
 refine zi (zY (zd (za ?_)))
 refine s_mv ?_
 refine zE rfl ?_
 refine s_as ?_
 refine zf ?_
 exact s_rn (fu,(w64 (g1+1))) ⟨by first | omega | (dsimp only;omega),F11⟩
 iterate 10 refine r_no rfl ?_
 refine zD ?_
 refine zD ?_
 refine zai (by kernel_rfl) ?_
 refine zd (zcC rfl (zi (zY (zd (za ?_)))))
 refine s_mv ?_
 refine zE rfl ?_
 refine s_as ?_
 refine zf ?_
 exact s_rn (fu,(w64 (g1+1))) ⟨by first | omega | (dsimp only;omega),F8⟩
 refine zA (zr (zp (zu (zd (zb (za ?_))))))
 refine s_mv ?_
 refine zB yU23 ?_
 refine s_le ?_
 refine s_as ?_
 refine zf (zd (zh (zo ?_)))
 cases F3
 exact zk [] [] Tryz.results79
 refine r_no rfl (r_no rfl ?_)
 refine zD ?_
 refine zf (zd (zcC rfl (zA (zr (zp (zu (zd (zb (za ?_)))))))))
 refine s_mv ?_
 refine zB yU23 ?_
 refine s_le ?_
 refine s_as ?_
 refine zf (zd (zh (zo ?_)))
 cases F2
 exact zk [] [] Tryz.results79
def m_spec_l1Ints_AC (fuel:Nat):Prop:=∀ (x1:(List Int)) (x2:(List Int)) (r:Bool),zeE fuel x1 x2=some r→AC Tryz.prog 80 [.t (.sl (x1.map rI)),.t (.sl (x2.map rI))] noOb (.t (.sc (.bool r))) noOb
theorem m_spec_l1Ints_ok (fuel:Nat):m_spec_l1Ints_AC fuel:=by
 intro x1 x2 r F0
 unfold zeE at F0
 refine AC_i [.t (.sc (.bool r))] Tryz.func80 rfl Tryz.ntmps80 ?_
 intro C hC
 refine zb (za ?_)
 refine s_as ?_
 refine zf (zd (zb (zb (za ?_))))
 refine s_mv ?_
 refine zB yU23 ?_
 refine s_mv ?_
 refine zB yU23 ?_
 refine s_ne ?_
 refine zf (zd ?_)
 refine zn F0 ?_ ?_<;>intro C1 F1
 refine zb (za ?_)
 refine s_as ?_
 refine zf (zd (zh (zg (zo ?_))))
 cases F1
 exact zk [] [] Tryz.results80
 refine zi (zd (zb (zb (za ?_))))
 refine s_as ?_
 refine zf (zd (zl ?_))
 refine zaE (β:=Int) [4,5,11,12,13,14,15,16,17,18,19,20,21,22,23,24,25] [] [] (fun a=>[(5,.t (.sc (.int .i64 a.2)))]) (fun a=>[]) (fun a=>a.1≤fuel∧zcK a.1 x1 x2 a.2=some r∧0≤a.2) (fuel,0) ⟨Nat.le_refl _,F1,by simp⟩ ?_
 clear F1
 rintro ⟨fu,g2⟩ ⟨hl3,F2,hn_g2⟩
 dsimp only at hl3 F2 hn_g2 ⊢
 obtain _ | fu:=fu
 · rw [zcK] at F2;cases F2
 rw [zcK] at F2
 refine zb (zb (za ?_))
 refine s_mv ?_
 refine s_mv ?_
 refine zB yU23 ?_
 refine s_lt ?_
 refine zf (zd ?_)
 refine zn F2 ?_ ?_<;>intro C4 F3
 refine zH 0 (fun B5=>?_)
 refine zi (zd (zb (zl (zb ?_))))
 refine zP yMix (by kernel_rfl) ?_
 refine s_mv ?_
 refine s_mv ?_
 obtain ⟨v6,V6,F4⟩:=zc F3
 refine zN rI V6 rfl yE23 ?_
 refine zq yA3 ?_
 refine s_mv ?_
 refine s_mv ?_
 obtain ⟨v7,V7,F5⟩:=zc F4
 refine zN rI V7 rfl yE23 ?_
 refine zq yA3 ?_
 refine s_ne ?_
 refine zai (by kernel_rfl) ?_
 refine zd ?_
 refine zn F5 ?_ ?_<;>intro C8 F6
 refine zb (za ?_)
 refine s_as ?_
 refine zf (zd (zh (zj (zg (zv (zj (zg (zo ?_))))))))
 cases F6
 exact zk [] [] Tryz.results80
 refine zi (zY (zd (za ?_)))
 refine s_mv ?_
 refine zE (zaF C4 B5 hn_g2) ?_
 refine s_as ?_
 refine zf ?_
 exact s_rn (fu,(g2+1)) ⟨by first | omega | (dsimp only;omega),F6,by first | omega | (dsimp only;omega)⟩
 refine zA (zr (zp (zu (zd (zb (za ?_))))))
 refine s_as ?_
 refine zf (zd (zh (zo ?_)))
 cases F3
 exact zk [] [] Tryz.results80
end Go.Abs
