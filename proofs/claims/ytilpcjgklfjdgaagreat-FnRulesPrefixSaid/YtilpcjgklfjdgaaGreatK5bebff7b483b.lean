/- A part of the proof: what the functions that the law calls answer, as pure values. -/
import Derived.Test.YtilpcjgklfjdgaaGreatKbeececb3b691
import Derived.Test.YtilpcjgklfjdgaaGreatKe5b598c0b17e
import Derived.Test.YtilpcjgklfjdgaaGreatKdfd114e1f3bb
import Derived.Test.YtilpcjgklfjdgaaGreatK25b6b0d87810
import Derived.Test.YtilpcjgklfjdgaaGreatK944daf6655d5
set_option linter.unusedSimpArgs false
set_option linter.unusedVariables false
set_option maxRecDepth 100000
set_option maxHeartbeats 4000000
namespace Go.Abs
open Go.Proofs
def m_impl_hitAt_AC (fuel:Nat):Prop:=∀ (x1:(List Hit)) (x2:Form) (r:Int),zfP fuel x1 x2=some r→AC Tryz.prog 49 [.t (.sl (x1.map Hit.row)),.ag [.t (.sc (.int .i64 x2.kind)),.t (.sc (.str x2.name)),.t (.sc (.int .i64 x2.n)),.t (.sl (x2.scopes.map rI)),.t (.sl (x2.kids.map Form.row))]] noOb (.t (.sc (.int .i64 r))) noOb
theorem m_impl_hitAt_ok (fuel:Nat):m_impl_hitAt_AC fuel:=by
 intro x1 x2 r F0
 unfold zfP at F0
 refine AC_i [.t (.sc (.int .i64 r))] Tryz.func49 rfl Tryz.ntmps49 ?_
 intro C hC
 refine zb (za ?_)
 refine zaL ?_
 refine s_as ?_
 refine zf (zd (zb (za ?_)))
 refine s_mv ?_
 refine s_fn ?_
 obtain ⟨v1,V1,F1⟩:=zc F0
 refine zY [(9000,3)] [] _ _ (zg0 fuel _ _ _ V1) ?_
 refine s_as ?_
 refine zf (zd (zh (zn ?_)))
 cases F1
 exact zk [] [] Tryz.results49
def m_impl_HitsValid_AC (fuel:Nat):Prop:=∀ (x1:(List Hit)) (r:Bool),zfi fuel x1=some r→AC Tryz.prog 19 [.t (.sl (x1.map Hit.row))] noOb (.t (.sc (.bool r))) noOb
theorem m_impl_HitsValid_ok (fuel:Nat):m_impl_HitsValid_AC fuel:=by
 intro x1 r F0
 unfold zfi at F0
 refine AC_i [.t (.sc (.bool r))] Tryz.func19 rfl Tryz.ntmps19 ?_
 intro C hC
 refine zb (za ?_)
 refine s_as ?_
 refine zf (zd (zb (zb (za ?_))))
 refine s_mv ?_
 refine zC yU42 ?_
 refine s_mv ?_
 refine zf (zd (zl ?_))
 refine zaK (β:=Int) [2,3,4,7,8,9,10,11,12,13,14,15,16,17,18,19,20,21,22,23,24] [] [4] (fun a=>[(7,.t (.sc (.int .i64 a.2)))]) (fun a=>[]) (fun a=>a.1≤fuel∧zbL a.1 x1 a.2=some r∧0≤a.2) (fuel,0) ⟨Nat.le_refl _,F0,by simp⟩ ?_
 clear F0
 rintro ⟨fu,g1⟩ ⟨hl2,F1,hn_g1⟩
 dsimp only at hl2 F1 hn_g1 ⊢
 obtain _ | fu:=fu
 · rw [zbL] at F1;cases F1
 rw [zbL] at F1
 refine zb (za ?_)
 refine s_lt ?_
 refine zf (zd (zb ?_))
 refine zm F1 ?_ ?_<;>intro C3 F2
 refine zM 0 (fun B4=>?_)
 refine zi (zd (zb (zl (zb (za ?_)))))
 refine s_mv ?_
 obtain ⟨v5,V5,F3⟩:=zc F2
 refine zK Hit.row V5 (Hit.row_eq _) yE42 ?_
 refine zam yA48 yS48 ?_
 refine zU yZ48 ?_
 refine s_as ?_
 refine zac yS48 ?_
 refine zf (zd (zb ?_))
 refine zO yMix (by kernel_rfl) ?_
 refine zI yA48 yS48 ?_
 obtain ⟨v6,V6,F4⟩:=zc F3
 refine zv [] (m_impl_hitOk_ok fu _ _ V6) ?_
 refine zaY ?_
 refine s_mv ?_
 refine zp _ 15 F4 ?_ ?_<;>intro C7 F5
 iterate 7 refine r_no rfl ?_
 refine zA ?_
 refine zae (by kernel_rfl) ?_
 refine zd (zT rfl (zb (za ?_)))
 refine s_as ?_
 refine zf (zd (zh (zj (zg (zw (zj (zg (zn ?_))))))))
 cases F5
 exact zk [] [] Tryz.results19
 refine s_mv ?_
 refine s_mv ?_
 obtain ⟨v8,V8,F6⟩:=zc F5
 refine s_sl01 Hit.row (fun y=>Hit.row_len y) V8 yU42 yE42 ?_
 refine s_fa zix ?_
 refine zam yA32 yS32 ?_
 obtain ⟨v9,V9,F7⟩:=zc F6
 refine zv [] (m_impl_hitAt_ok fu _ _ _ V9) ?_
 refine s_ge ?_
 refine zz ?_
 refine zae (by kernel_rfl) ?_
 refine zd ?_
 refine zm F7 ?_ ?_<;>intro C10 F8
 refine zb (za ?_)
 refine s_as ?_
 refine zf (zd (zh (zj (zg (zw (zj (zg (zn ?_))))))))
 cases F8
 exact zk [] [] Tryz.results19
 refine zi (zW (zd (za ?_)))
 refine zJ (zas C3 B4 hn_g1) ?_
 refine s_mv ?_
 refine zf ?_
 exact s_rn (fu,(g1+1)) ⟨by first | omega | (dsimp only;omega),F8,by first | omega | (dsimp only;omega)⟩
 refine zy (zq (zo (zr (zd (zb (za ?_))))))
 refine s_mv ?_
 refine zC yU42 ?_
 refine s_le ?_
 refine s_as ?_
 refine zf (zd (zh (zn ?_)))
 cases F2
 exact zk [] [] Tryz.results19
def m_impl_named_AC (fuel:Nat):Prop:=∀ (x1:Form) (x2:ByteArray) (r:Bool),zb0 fuel x1 x2=some r→AC Tryz.prog 71 [.ag [.t (.sc (.int .i64 x1.kind)),.t (.sc (.str x1.name)),.t (.sc (.int .i64 x1.n)),.t (.sl (x1.scopes.map rI)),.t (.sl (x1.kids.map Form.row))],.t (.sc (.str x2))] noOb (.t (.sc (.bool r))) noOb
theorem zbK (fuel:Nat):m_impl_named_AC fuel:=by
 intro x1 x2 r F0
 unfold zb0 at F0
 refine AC_i [.t (.sc (.bool r))] Tryz.func71 rfl Tryz.ntmps71 ?_
 intro C hC
 refine zb (za ?_)
 refine zaL ?_
 refine s_as ?_
 refine zf (zd (zb (za ?_)))
 refine s_fa zcY ?_
 refine zu yA3 ?_
 refine s_eq ?_
 refine s_mv ?_
 refine zp _ 8 F0 ?_ ?_<;>intro C1 F1
 refine s_fa zcm ?_
 refine zu yA9 ?_
 refine s_mv ?_
 refine zhr ?_
 refine zA ?_
 refine s_as ?_
 refine zf (zd (zh (zn ?_)))
 cases F1
 exact zk [] [] Tryz.results71
 iterate 4 refine r_no rfl ?_
 refine zz ?_
 refine s_as ?_
 refine zf (zd (zh (zn ?_)))
 cases F1
 exact zk [] [] Tryz.results71
def m_impl_dotsAt_1_AC (fuel:Nat):Prop:=∀ (x1:Form) (r:Bool),zdW fuel x1=some r→AC Tryz.prog 131 [.ag [.t (.sc (.int .i64 x1.kind)),.t (.sc (.str x1.name)),.t (.sc (.int .i64 x1.n)),.t (.sl (x1.scopes.map rI)),.t (.sl (x1.kids.map Form.row))]] noOb (.t (.sc (.bool r))) noOb
theorem m_impl_dotsAt_1_ok (fuel:Nat):m_impl_dotsAt_1_AC fuel:=by
 intro x1 r F0
 unfold zdW at F0
 refine AC_i [.t (.sc (.bool r))] Tryz.func131 rfl Tryz.ntmps131 ?_
 intro C hC
 refine zb (za ?_)
 refine zaL ?_
 refine s_as ?_
 refine zf (zd (zb (za ?_)))
 refine zI yA32 yS32 ?_
 obtain ⟨v1,V1,F1⟩:=zc F0
 refine zv [] (zbK fuel _ _ _ V1) ?_
 refine s_as ?_
 refine zf (zd (zh (zn ?_)))
 cases F1
 exact zk [] [] Tryz.results131
def zgG (fuel:Nat):Prop:=∀ (x1:(List Form)) (r:Int),zaZ fuel x1=some r→AC Tryz.prog 130 [.t (.sl (x1.map Form.row)),.fn 131 []] noOb (.t (.sc (.int .i64 r))) noOb
theorem zgF (fuel:Nat):zgG fuel:=by
 intro x1 r F0
 unfold zaZ at F0
 refine AC_i [.t (.sc (.int .i64 r))] Tryz.func130 rfl Tryz.ntmps130 ?_
 intro C hC
 refine zb (za ?_)
 refine s_as ?_
 refine zf (zd (zb (zb (za ?_))))
 refine s_mv ?_
 refine zC yU24 ?_
 refine s_mv ?_
 refine zf (zd (zl ?_))
 refine zaK (β:=Int) [4,5,8,9,10,11,12,13,14,15,16,17,18] [] [] (fun a=>[(8,.t (.sc (.int .i64 a.2)))]) (fun a=>[]) (fun a=>a.1≤fuel∧zR a.1 x1 a.2=some r∧0≤a.2) (fuel,0) ⟨Nat.le_refl _,F0,by simp⟩ ?_
 clear F0
 rintro ⟨fu,g1⟩ ⟨hl2,F1,hn_g1⟩
 dsimp only at hl2 F1 hn_g1 ⊢
 obtain _ | fu:=fu
 · rw [zR] at F1;cases F1
 rw [zR] at F1
 refine zb (za ?_)
 refine s_lt ?_
 refine zf (zd (zb ?_))
 refine zm F1 ?_ ?_<;>intro C3 F2
 refine zM 0 (fun B4=>?_)
 refine zi (zd (zb (zl (zb (za ?_)))))
 refine s_mv ?_
 refine s_as ?_
 refine zf (zd (zb (za ?_)))
 iterate 3 refine s_mv ?_
 obtain ⟨v5,V5,F3⟩:=zc F2
 refine zK Form.row V5 (Form.row_eq _) yE24 ?_
 refine zam yA32 yS32 ?_
 obtain ⟨v6,V6,F4⟩:=zc F3
 refine zv [] (m_impl_dotsAt_1_ok fu _ _ V6) ?_
 refine zf (zd ?_)
 refine zm F4 ?_ ?_<;>intro C7 F5
 refine zb (za ?_)
 refine s_mv ?_
 refine s_as ?_
 refine zf (zd (zh (zj (zg (zw (zj (zg (zn ?_))))))))
 cases F5
 exact zk [] [] Tryz.results130
 refine zi (zW (zd (za ?_)))
 refine zJ (zas C3 B4 hn_g1) ?_
 refine s_mv ?_
 refine zf ?_
 exact s_rn (fu,(g1+1)) ⟨by first | omega | (dsimp only;omega),F5,by first | omega | (dsimp only;omega)⟩
 refine zy (zq (zo (zr (zd (zb (za ?_))))))
 refine s_as ?_
 refine zf (zd (zh (zn ?_)))
 cases F2
 exact zk [] [] Tryz.results130
def m_impl_dotsAt_AC (fuel:Nat):Prop:=∀ (x1:(List Form)) (r:Int),zeP fuel x1=some r→AC Tryz.prog 81 [.t (.sl (x1.map Form.row))] noOb (.t (.sc (.int .i64 r))) noOb
theorem m_impl_dotsAt_ok (fuel:Nat):m_impl_dotsAt_AC fuel:=by
 intro x1 r F0
 unfold zeP at F0
 refine AC_i [.t (.sc (.int .i64 r))] Tryz.func81 rfl Tryz.ntmps81 ?_
 intro C hC
 refine zb (za ?_)
 refine s_as ?_
 refine zf (zd (zb (za ?_)))
 refine s_mv ?_
 obtain ⟨v1,V1,F1⟩:=zc F0
 refine zv [] (zgF fuel _ _ V1) ?_
 refine s_as ?_
 refine zf (zd (zh (zn ?_)))
 cases F1
 exact zk [] [] Tryz.results81
def zgB (fuel:Nat):Prop:=∀ (x1:Form) (x2:Bool) (r:Bool),zdD fuel x1 x2=some r→AC Tryz.prog 135 [.ag [.t (.sc (.int .i64 x1.kind)),.t (.sc (.str x1.name)),.t (.sc (.int .i64 x1.n)),.t (.sl (x1.scopes.map rI)),.t (.sl (x1.kids.map Form.row))],.t (.sc (.bool x2))] noOb (.t (.sc (.bool r))) noOb
theorem m_impl_dotsOk_st (fu:Nat) (ih_m_impl_dotsOk:∀ k,k≤fu→zgB k):zgB (fu+1):=by
 intro x1 x2 r F0
 rw [zdD] at F0
 refine AC_i [.t (.sc (.bool r))] Tryz.func135 rfl Tryz.ntmps135 ?_
 intro C hC
 refine zb (za ?_)
 refine zaL ?_
 refine s_as ?_
 refine zf (zd (zb (zb (za ?_))))
 refine s_fa zF ?_
 refine zu yA24 ?_
 refine zC yU24 ?_
 refine s_mv ?_
 refine zf (zd (zl ?_))
 refine zaK (β:=Int) [4,5,6,10,11,12,13,14,15,16,17,18,19,20,21,22,23,24,25,26,27,28,29,30,31,32,33,34,35,36,37,38,39,40,41,42,43] [] [6] (fun a=>[(10,.t (.sc (.int .i64 a.2)))]) (fun a=>[]) (fun a=>a.1≤fu∧zbQ a.1 x1 x2 a.2=some r∧0≤a.2) (fu,0) ⟨Nat.le_refl _,F0,by simp⟩ ?_
 clear F0
 rintro ⟨fu,g1⟩ ⟨hl2,F1,hn_g1⟩
 dsimp only at hl2 F1 hn_g1 ⊢
 obtain _ | fu:=fu
 · rw [zbQ] at F1;cases F1
 rw [zbQ] at F1
 refine zb (za ?_)
 refine s_lt ?_
 refine zf (zd (zb ?_))
 refine zm F1 ?_ ?_<;>intro C3 F2
 refine zM 8 (fun B4=>?_)
 refine zi (zd (zb (zl (zb (za ?_)))))
 refine s_mv ?_
 obtain ⟨v5,V5,F3⟩:=zc F2
 refine zK Form.row V5 (Form.row_eq _) yE24 ?_
 refine zam yA32 yS32 ?_
 refine zU yZ32 ?_
 refine s_as ?_
 refine zac yS32 ?_
 refine zf (zd (zb (za ?_)))
 refine zI yA32 yS32 ?_
 obtain ⟨v6,V6,F4⟩:=zc F3
 refine zv [] (zbK fu _ _ _ V6) ?_
 refine zf (zd ?_)
 refine zm F4 ?_ ?_<;>intro C7 F5
 refine zb (za ?_)
 refine s_mv ?_
 refine s_eq ?_
 refine s_mv ?_
 refine zp _ 19 F5 ?_ ?_<;>intro C8 F6
 iterate 7 refine r_no rfl ?_
 refine zA ?_
 refine s_mv ?_
 iterate 9 refine r_no rfl ?_
 refine zA ?_
 refine zf (zd (zT rfl (zb (za ?_))))
 refine s_as ?_
 refine zf (zd (zh (zj (zg (zw (zj (zg (zn ?_))))))))
 cases F6
 exact zk [] [] Tryz.results135
 refine s_fa zF ?_
 refine zu yA24 ?_
 refine s_mv ?_
 refine zh9 rfl ?_
 obtain ⟨v9,V9,F7⟩:=zc F6
 refine zK Form.row V9 (Form.row_eq _) yE24 ?_
 refine zam yA32 yS32 ?_
 obtain ⟨v10,V10,F8⟩:=zc F7
 refine zv [] (zbK fu _ _ _ V10) ?_
 refine zz ?_
 refine s_mv ?_
 refine zp _ 28 F8 ?_ ?_<;>intro C11 F9
 iterate 9 refine r_no rfl ?_
 refine zA ?_
 refine zf (zd (zT rfl (zb (za ?_))))
 refine s_as ?_
 refine zf (zd (zh (zj (zg (zw (zj (zg (zn ?_))))))))
 cases F9
 exact zk [] [] Tryz.results135
 refine s_mv ?_
 refine s_mv ?_
 refine zp _ 30 F9 ?_ ?_<;>intro C12 F10
 refine s_fa zF ?_
 refine zu yA24 ?_
 refine s_mv ?_
 obtain ⟨v13,V13,F11⟩:=zc F10
 refine s_sl01 Form.row (fun y=>Form.row_len y) V13 yU24 yE24 ?_
 obtain ⟨v14,V14,F12⟩:=zc F11
 refine zv [] (m_impl_dotsAt_ok fu _ _ V14) ?_
 refine s_ge ?_
 refine zA ?_
 refine zz ?_
 refine zf (zd ?_)
 refine zm F12 ?_ ?_<;>intro C15 F13
 refine zb (za ?_)
 refine s_as ?_
 refine zf (zd (zh (zj (zg (zw (zj (zg (zn ?_))))))))
 cases F13
 exact zk [] [] Tryz.results135
 refine zi (zW (zd (za ?_)))
 refine zJ (zas C3 B4 hn_g1) ?_
 refine s_mv ?_
 refine zf ?_
 exact s_rn (fu,(g1+1)) ⟨by first | omega | (dsimp only;omega),F13,by first | omega | (dsimp only;omega)⟩
 iterate 6 refine r_no rfl ?_
 refine zz ?_
 refine zz ?_
 refine zf (zd (zaX rfl (zi (zW (zd (za ?_))))))
 refine zJ (zas C3 B4 hn_g1) ?_
 refine s_mv ?_
 refine zf ?_
 exact s_rn (fu,(g1+1)) ⟨by first | omega | (dsimp only;omega),F10,by first | omega | (dsimp only;omega)⟩
 refine zb (za ?_)
 refine zI yA32 yS32 ?_
 refine s_mv ?_
 obtain ⟨v16,V16,F6⟩:=zc F5
 refine zv [] (ih_m_impl_dotsOk fu (by omega) _ _ _ V16) ?_
 refine zaY ?_
 refine zf (zd ?_)
 refine zm F6 ?_ ?_<;>intro C17 F7
 refine zb (za ?_)
 refine s_as ?_
 refine zf (zd (zh (zj (zg (zw (zj (zg (zn ?_))))))))
 cases F7
 exact zk [] [] Tryz.results135
 refine zi (zW (zd (za ?_)))
 refine zJ (zas C3 B4 hn_g1) ?_
 refine s_mv ?_
 refine zf ?_
 exact s_rn (fu,(g1+1)) ⟨by first | omega | (dsimp only;omega),F7,by first | omega | (dsimp only;omega)⟩
 refine zy (zq (zo (zr (zd (zb (za ?_))))))
 refine s_as ?_
 refine zf (zd (zh (zn ?_)))
 cases F2
 exact zk [] [] Tryz.results135
theorem m_impl_dotsOk_all (fuel:Nat):zgB fuel:=by
 induction fuel using Nat.strongRecOn with
 | _ N ih =>
   cases N with
   | zero=>exact (by intro x1 x2 r h;rw [zdD] at h;cases h)
   | succ fu=>exact m_impl_dotsOk_st fu (fun k hk=>(ih k (by omega)))
theorem m_impl_dotsOk_ok (fuel:Nat):zgB fuel:=(m_impl_dotsOk_all fuel)
def m_impl_depthIn_1_AC (fuel:Nat):Prop:=∀ (x1:Form) (o1:Form) (r:Bool),zfg fuel x1 o1=some r→AC Tryz.prog 173 [.ag [.t (.sc (.int .i64 x1.kind)),.t (.sc (.str x1.name)),.t (.sc (.int .i64 x1.n)),.t (.sl (x1.scopes.map rI)),.t (.sl (x1.kids.map Form.row))],.rf 9000 0] (objs [(9000,.box [.t (.sc (.int .i64 o1.kind)),.t (.sc (.str o1.name)),.t (.sc (.int .i64 o1.n)),.t (.sl (o1.scopes.map rI)),.t (.sl (o1.kids.map Form.row))])]) (.t (.sc (.bool r))) (objs [(9000,.box [.t (.sc (.int .i64 o1.kind)),.t (.sc (.str o1.name)),.t (.sc (.int .i64 o1.n)),.t (.sl (o1.scopes.map rI)),.t (.sl (o1.kids.map Form.row))])])
theorem m_impl_depthIn_1_ok (fuel:Nat):m_impl_depthIn_1_AC fuel:=by
 intro x1 o1 r F0
 unfold zfg at F0
 refine AC_i [.t (.sc (.bool r))] Tryz.func173 rfl Tryz.ntmps173 ?_
 intro C hC
 refine zb (za ?_)
 refine zaL ?_
 refine s_as ?_
 refine zf (zd (zb (za ?_)))
 refine zI yA32 yS32 ?_
 refine zI yA32 yS32 ?_
 obtain ⟨v1,V1,F1⟩:=zc F0
 refine zv [] (zaU fuel _ _ _ V1) ?_
 refine s_as ?_
 refine zf (zd (zh (zn ?_)))
 cases F1
 exact zk _ [] Tryz.results173
def zgd (fuel:Nat):Prop:=∀ (x1:(List Form)) (o1:Form) (r:Int),zbD fuel x1 o1=some r→AC Tryz.prog 130 [.t (.sl (x1.map Form.row)),.fn 173 [.rf 9000 0]] (objs [(9000,.box [.t (.sc (.int .i64 o1.kind)),.t (.sc (.str o1.name)),.t (.sc (.int .i64 o1.n)),.t (.sl (o1.scopes.map rI)),.t (.sl (o1.kids.map Form.row))])]) (.t (.sc (.int .i64 r))) (objs [(9000,.box [.t (.sc (.int .i64 o1.kind)),.t (.sc (.str o1.name)),.t (.sc (.int .i64 o1.n)),.t (.sl (o1.scopes.map rI)),.t (.sl (o1.kids.map Form.row))])])
theorem zgc (fuel:Nat):zgd fuel:=by
 intro x1 o1 r F0
 unfold zbD at F0
 refine AC_i [.t (.sc (.int .i64 r))] Tryz.func130 rfl Tryz.ntmps130 ?_
 intro C hC
 refine zb (za ?_)
 refine s_as ?_
 refine zf (zd (zb (zb (za ?_))))
 refine s_mv ?_
 refine zC yU24 ?_
 refine s_mv ?_
 refine zf (zd (zl ?_))
 refine zaK (β:=Int) [4,5,8,9,10,11,12,13,14,15,16,17,18] [] [] (fun a=>[(8,.t (.sc (.int .i64 a.2)))]) (fun a=>[]) (fun a=>a.1≤fuel∧zab a.1 x1 o1 a.2=some r∧0≤a.2) (fuel,0) ⟨Nat.le_refl _,F0,by simp⟩ ?_
 clear F0
 rintro ⟨fu,g1⟩ ⟨hl2,F1,hn_g1⟩
 dsimp only at hl2 F1 hn_g1 ⊢
 obtain _ | fu:=fu
 · rw [zab] at F1;cases F1
 rw [zab] at F1
 refine zb (za ?_)
 refine s_lt ?_
 refine zf (zd (zb ?_))
 refine zm F1 ?_ ?_<;>intro C3 F2
 refine zM 0 (fun B4=>?_)
 refine zi (zd (zb (zl (zb (za ?_)))))
 refine s_mv ?_
 refine s_as ?_
 refine zf (zd (zb (za ?_)))
 iterate 3 refine s_mv ?_
 obtain ⟨v5,V5,F3⟩:=zc F2
 refine zK Form.row V5 (Form.row_eq _) yE24 ?_
 refine zam yA32 yS32 ?_
 obtain ⟨v6,V6,F4⟩:=zc F3
 refine zY [(9000,9000)] [] _ _ (m_impl_depthIn_1_ok fu _ _ _ V6) ?_
 refine zf (zd ?_)
 refine zm F4 ?_ ?_<;>intro C7 F5
 refine zb (za ?_)
 refine s_mv ?_
 refine s_as ?_
 refine zf (zd (zh (zj (zg (zw (zj (zg (zn ?_))))))))
 cases F5
 exact zk _ [] Tryz.results130
 refine zi (zW (zd (za ?_)))
 refine zJ (zas C3 B4 hn_g1) ?_
 refine s_mv ?_
 refine zf ?_
 exact s_rn (fu,(g1+1)) ⟨by first | omega | (dsimp only;omega),F5,by first | omega | (dsimp only;omega)⟩
 refine zy (zq (zo (zr (zd (zb (za ?_))))))
 refine s_as ?_
 refine zf (zd (zh (zn ?_)))
 cases F2
 exact zk _ [] Tryz.results130
def m_impl_depthIn_AC (fuel:Nat):Prop:=∀ (x1:(List Form)) (x2:(List Int)) (x3:Form) (r:Int),zfp fuel x1 x2 x3=some r→AC Tryz.prog 159 [.t (.sl (x1.map Form.row)),.t (.sl (x2.map rI)),.ag [.t (.sc (.int .i64 x3.kind)),.t (.sc (.str x3.name)),.t (.sc (.int .i64 x3.n)),.t (.sl (x3.scopes.map rI)),.t (.sl (x3.kids.map Form.row))]] noOb (.t (.sc (.int .i64 r))) noOb
theorem ziM (fuel:Nat):m_impl_depthIn_AC fuel:=by
 intro x1 x2 x3 r F0
 unfold zfp at F0
 refine AC_i [.t (.sc (.int .i64 r))] Tryz.func159 rfl Tryz.ntmps159 ?_
 intro C hC
 refine zb (za ?_)
 refine zaL ?_
 refine s_as ?_
 refine zf (zd (zb (zb (za ?_))))
 refine s_fa zcY ?_
 refine zu yA3 ?_
 refine s_ne ?_
 refine zf (zd ?_)
 refine zm F0 ?_ ?_<;>intro C1 F1
 refine zb (za ?_)
 refine s_as ?_
 refine zf (zd (zh (zg (zn ?_))))
 cases F1
 exact zk [] [] Tryz.results159
 refine zi (zd (zb (za ?_)))
 refine s_mv ?_
 refine s_fn ?_
 obtain ⟨v2,V2,F2⟩:=zc F1
 refine zY [(9000,5)] [] _ _ (zgc fuel _ _ _ V2) ?_
 refine s_as ?_
 refine zf (zd (zb (zb (za ?_))))
 refine s_mv ?_
 refine s_lt ?_
 refine zf (zd ?_)
 refine zm F2 ?_ ?_<;>intro C3 F3
 refine zb (za ?_)
 refine s_as ?_
 refine zf (zd (zh (zg (zn ?_))))
 cases F3
 exact zk [] [] Tryz.results159
 refine zi (zd (zb (za ?_)))
 refine s_mv ?_
 refine s_mv ?_
 obtain ⟨v4,V4,F4⟩:=zc F3
 refine zK rI V4 rfl yE27 ?_
 refine zu yA3 ?_
 refine s_as ?_
 refine zf (zd (zh (zn ?_)))
 cases F4
 exact zk [] [] Tryz.results159
def m_impl_rowsOk_1_AC (fuel:Nat):Prop:=∀ (x1:Form) (o1:Bool) (o2:(List Form)) (o3:(List Int)) (o4:Int) (r:Bool),zg4 fuel x1 o1 o2 o3 o4=some r→AC Tryz.prog 160 [.ag [.t (.sc (.int .i64 x1.kind)),.t (.sc (.str x1.name)),.t (.sc (.int .i64 x1.n)),.t (.sl (x1.scopes.map rI)),.t (.sl (x1.kids.map Form.row))],.rf 9000 0,.rf 9001 0,.rf 9002 0,.rf 9003 0] (objs [(9000,.box [.t (.sc (.bool o1))]),(9001,.box [.t (.sl (o2.map Form.row))]),(9002,.box [.t (.sl (o3.map rI))]),(9003,.box [.t (.sc (.int .i64 o4))])]) (.tp []) (objs [(9000,.box [.t (.sc (.bool r))]),(9001,.box [.t (.sl (o2.map Form.row))]),(9002,.box [.t (.sl (o3.map rI))]),(9003,.box [.t (.sc (.int .i64 o4))])])
theorem m_impl_rowsOk_1_ok (fuel:Nat):m_impl_rowsOk_1_AC fuel:=by
 intro x1 o1 o2 o3 o4 r F0
 unfold zg4 at F0
 refine AC_i [] Tryz.func160 rfl Tryz.ntmps160 ?_
 intro C hC
 refine zb (za ?_)
 refine zaL ?_
 refine zf (zd ?_)
 refine zO yMix (by kernel_rfl) ?_
 refine zu yA4 ?_
 refine s_mv ?_
 refine zp _ 7 F0 ?_ ?_<;>intro C1 F1
 iterate 6 refine r_no rfl ?_
 refine zA ?_
 refine zac yS4 ?_
 refine zae (by kernel_rfl) ?_
 refine zhy ?_
 cases F1
 exact zk _ [] Tryz.results160
 refine zu yA24 ?_
 refine zu yA27 ?_
 refine zI yA32 yS32 ?_
 obtain ⟨v2,V2,F2⟩:=zc F1
 refine zv [] (ziM fuel _ _ _ _ V2) ?_
 refine zu yA3 ?_
 refine s_gt ?_
 refine zz ?_
 refine zac yS4 ?_
 refine zae (by kernel_rfl) ?_
 refine zhy ?_
 cases F2
 exact zk _ [] Tryz.results160
def zcs (fuel:Nat):Prop:=∀ (x1:Form) (o1:Bool) (o2:(List Form)) (o3:(List Int)) (o4:Int) (r:Bool),zba fuel x1 o1 o2 o3 o4=some r→AC Tryz.prog 50 [.ag [.t (.sc (.int .i64 x1.kind)),.t (.sc (.str x1.name)),.t (.sc (.int .i64 x1.n)),.t (.sl (x1.scopes.map rI)),.t (.sl (x1.kids.map Form.row))],.fn 160 [.rf 9000 0,.rf 9001 0,.rf 9002 0,.rf 9003 0]] (objs [(9000,.box [.t (.sc (.bool o1))]),(9001,.box [.t (.sl (o2.map Form.row))]),(9002,.box [.t (.sl (o3.map rI))]),(9003,.box [.t (.sc (.int .i64 o4))])]) (.tp []) (objs [(9000,.box [.t (.sc (.bool r))]),(9001,.box [.t (.sl (o2.map Form.row))]),(9002,.box [.t (.sl (o3.map rI))]),(9003,.box [.t (.sc (.int .i64 o4))])])
theorem zh0 (fu:Nat) (ih_m_impl_eachForm_rowsOk_1:∀ k,k≤fu→zcs k):zcs (fu+1):=by
 intro x1 o1 o2 o3 o4 r F0
 rw [zba] at F0
 refine AC_i [] Tryz.func50 rfl Tryz.ntmps50 ?_
 intro C hC
 refine zb (za ?_)
 refine zaL ?_
 refine zf (zd (zb (za ?_)))
 refine s_mv ?_
 refine zI yA32 yS32 ?_
 obtain ⟨v1,V1,F1⟩:=zc F0
 refine zY [(9000,9000),(9001,9001),(9002,9002),(9003,9003)] [] _ _ (m_impl_rowsOk_1_ok fu _ _ _ _ _ _ V1) ?_
 refine zf (zd (zb (za ?_)))
 refine s_fa zF ?_
 refine zu yA24 ?_
 refine zC yU24 ?_
 refine s_mv ?_
 refine zf (zd (zl ?_))
 refine zaK (β:=Int × Bool) [5,12,13,14,15,16,17,18,19] [9000] [5] (fun a=>[(12,.t (.sc (.int .i64 a.2.1)))]) (fun a=>[(9000,.box [.t (.sc (.bool a.2.2))])]) (fun a=>a.1≤fu∧zaw a.1 x1 o2 o3 o4 a.2.1 a.2.2=some r∧0≤a.2.1) (fu,0,v1) ⟨Nat.le_refl _,F1,by simp⟩ ?_
 clear F1
 rintro ⟨fu,g2,g3⟩ ⟨hl4,F2,hn_g2⟩
 dsimp only at hl4 F2 hn_g2 ⊢
 obtain _ | fu:=fu
 · rw [zaw] at F2;cases F2
 rw [zaw] at F2
 refine zb (za ?_)
 refine s_lt ?_
 refine zf (zd (zb ?_))
 refine zm F2 ?_ ?_<;>intro C5 F3
 refine zM 10 (fun B6=>?_)
 refine zi (zd (zb (zl (zb (za ?_)))))
 obtain ⟨v7,V7,F4⟩:=zc F3
 refine zK Form.row V7 (Form.row_eq _) yE24 ?_
 refine zam yA32 yS32 ?_
 refine zU yZ32 ?_
 refine zac yS32 ?_
 refine zf (zd (za ?_))
 refine zI yA32 yS32 ?_
 refine s_mv ?_
 obtain ⟨v8,V8,F5⟩:=zc F4
 refine zY [(9000,9000),(9001,9001),(9002,9002),(9003,9003)] [] _ _ (ih_m_impl_eachForm_rowsOk_1 fu (by omega) _ _ _ _ _ _ V8) ?_
 refine zf (zW (zd (za ?_)))
 refine zJ (zas C5 B6 hn_g2) ?_
 refine s_mv ?_
 refine zf ?_
 exact s_rn (fu,(g2+1),v8) ⟨by first | omega | (dsimp only;omega),F5,by first | omega | (dsimp only;omega)⟩
 refine zy (zq (zo (zr (zhy ?_))))
 cases F3
 exact zk _ [] Tryz.results50
theorem zhS (fuel:Nat):zcs fuel:=by
 induction fuel using Nat.strongRecOn with
 | _ N ih =>
   cases N with
   | zero=>exact (by intro x1 o1 o2 o3 o4 r h;rw [zba] at h;cases h)
   | succ fu=>exact zh0 fu (fun k hk=>(ih k (by omega)))
theorem zh1 (fuel:Nat):zcs fuel:=(zhS fuel)
def zgy (fuel:Nat):Prop:=∀ (x1:Form) (x2:(List Form)) (x3:(List Int)) (x4:Int) (r:Bool),zc1 fuel x1 x2 x3 x4=some r→AC Tryz.prog 136 [.ag [.t (.sc (.int .i64 x1.kind)),.t (.sc (.str x1.name)),.t (.sc (.int .i64 x1.n)),.t (.sl (x1.scopes.map rI)),.t (.sl (x1.kids.map Form.row))],.t (.sl (x2.map Form.row)),.t (.sl (x3.map rI)),.t (.sc (.int .i64 x4))] noOb (.t (.sc (.bool r))) noOb
theorem m_impl_rowsOk_st (fu:Nat) (ih_m_impl_rowsOk:∀ k,k≤fu→zgy k):zgy (fu+1):=by
 intro x1 x2 x3 x4 r F0
 rw [zc1] at F0
 refine AC_i [.t (.sc (.bool r))] Tryz.func136 rfl Tryz.ntmps136 ?_
 intro C hC
 refine zb (za ?_)
 iterate 4 refine zaL ?_
 refine s_as ?_
 refine zf (zd (zb (zb ?_)))
 refine zO yMix (by kernel_rfl) ?_
 refine zu yA24 ?_
 refine zu yA27 ?_
 refine zI yA32 yS32 ?_
 obtain ⟨v1,V1,F1⟩:=zc F0
 refine zv [] (ziM fu _ _ _ _ V1) ?_
 refine zu yA3 ?_
 refine s_gt ?_
 refine zae (by kernel_rfl) ?_
 refine zd ?_
 refine zm F1 ?_ ?_<;>intro C2 F2
 refine zb (za ?_)
 refine s_as ?_
 refine zf (zd (zh (zg (zn ?_))))
 cases F2
 exact zk [] [] Tryz.results136
 refine zi (zd (zb (zb (za ?_))))
 refine s_fa zF ?_
 refine zu yA24 ?_
 refine zC yU24 ?_
 refine s_mv ?_
 refine zf (zd (zl ?_))
 refine zaK (β:=Int) [8,9,10,11,12,22,23,24,25,26,27,28,29,30,31,32,33,34,35,36,37,38,39,40,41,42,43,44,45,46,47,48,49,50,51,52,53,54,55,56,57,58] [] [10,12] (fun a=>[(22,.t (.sc (.int .i64 a.2)))]) (fun a=>[]) (fun a=>a.1≤fu∧za7 a.1 x1 x2 x3 x4 a.2=some r∧0≤a.2) (fu,0) ⟨Nat.le_refl _,F2,by simp⟩ ?_
 clear F2
 rintro ⟨fu,g3⟩ ⟨hl4,F3,hn_g3⟩
 dsimp only at hl4 F3 hn_g3 ⊢
 obtain _ | fu:=fu
 · rw [za7] at F3;cases F3
 rw [za7] at F3
 refine zb (za ?_)
 refine s_lt ?_
 refine zf (zd (zb ?_))
 refine zm F3 ?_ ?_<;>intro C5 F4
 refine zM 20 (fun B6=>?_)
 refine zi (zd (zb (zl (zb (za ?_)))))
 refine s_mv ?_
 obtain ⟨v7,V7,F5⟩:=zc F4
 refine zK Form.row V7 (Form.row_eq _) yE24 ?_
 refine zam yA32 yS32 ?_
 refine zU yZ32 ?_
 refine s_as ?_
 refine zac yS32 ?_
 refine zf (zd (zb (zb (za ?_))))
 refine zI yA32 yS32 ?_
 obtain ⟨v8,V8,F6⟩:=zc F5
 refine zv [] (zbK fu _ _ _ V8) ?_
 refine zf (zd ?_)
 refine zm F6 ?_ ?_<;>intro C9 F7
 refine zy (zq (zr (zd (za ?_))))
 refine zJ (zas C5 B6 hn_g3) ?_
 refine s_mv ?_
 refine zf ?_
 exact s_rn (fu,(g3+1)) ⟨by first | omega | (dsimp only;omega),F7,by first | omega | (dsimp only;omega)⟩
 refine zi (zd (zb (za ?_)))
 refine zu yA3 ?_
 refine s_as ?_
 refine zf (zd (zb (zb (za ?_))))
 refine s_mv ?_
 refine zJ (zas C5 B6 hn_g3) ?_
 refine s_fa zF ?_
 refine zu yA24 ?_
 refine zC yU24 ?_
 refine s_lt ?_
 refine s_mv ?_
 refine zp _ 36 F7 ?_ ?_<;>intro C10 F8
 refine s_fa zF ?_
 refine zu yA24 ?_
 refine s_mv ?_
 refine zJ (zas C5 B6 hn_g3) ?_
 obtain ⟨v11,V11,F9⟩:=zc F8
 refine zK Form.row V11 (Form.row_eq _) yE24 ?_
 refine zam yA32 yS32 ?_
 obtain ⟨v12,V12,F10⟩:=zc F9
 refine zv [] (zbK fu _ _ _ V12) ?_
 refine zA ?_
 refine zf (zd ?_)
 refine zm F10 ?_ ?_<;>intro C13 F11
 refine zb (za ?_)
 refine s_mv ?_
 refine zJ rfl ?_
 refine s_as ?_
 refine zf (zd (zb (za ?_)))
 refine zU yZ4 ?_
 refine zac yS4 ?_
 refine zf (zd (zb (za ?_)))
 refine zI yA32 yS32 ?_
 refine s_fn ?_
 obtain ⟨v14,V14,F12⟩:=zc F11
 refine zY [(9000,12),(9001,5),(9002,6),(9003,7)] [] _ _ (zh1 fu _ _ _ _ _ _ V14) ?_
 refine zf (zd (zb (za ?_)))
 refine zu yA4 ?_
 refine zaY ?_
 refine zf (zd ?_)
 refine zm F12 ?_ ?_<;>intro C15 F13
 refine zb (za ?_)
 refine s_as ?_
 refine zf (zd (zh (zg (zj (zg (zw (zj (zg (zn ?_)))))))))
 cases F13
 exact zk [] [] Tryz.results136
 refine zi (zd (zb (za ?_)))
 refine zI yA32 yS32 ?_
 refine zu yA24 ?_
 refine zu yA27 ?_
 refine s_mv ?_
 obtain ⟨v16,V16,F14⟩:=zc F13
 refine zv [] (ih_m_impl_rowsOk fu (by omega) _ _ _ _ _ V16) ?_
 refine zaY ?_
 refine zf (zd ?_)
 refine zm F14 ?_ ?_<;>intro C17 F15
 refine zb (za ?_)
 refine s_as ?_
 refine zf (zd (zh (zj (zg (zw (zj (zg (zn ?_))))))))
 cases F15
 exact zk [] [] Tryz.results136
 refine zi (zW (zd (za ?_)))
 refine zJ (zas C5 B6 hn_g3) ?_
 refine s_mv ?_
 refine zf ?_
 exact s_rn (fu,(g3+1)) ⟨by first | omega | (dsimp only;omega),F15,by first | omega | (dsimp only;omega)⟩
 refine zi (zd (zb (za ?_)))
 refine zI yA32 yS32 ?_
 refine zu yA24 ?_
 refine zu yA27 ?_
 refine s_mv ?_
 obtain ⟨v18,V18,F12⟩:=zc F11
 refine zv [] (ih_m_impl_rowsOk fu (by omega) _ _ _ _ _ V18) ?_
 refine zaY ?_
 refine zf (zd ?_)
 refine zm F12 ?_ ?_<;>intro C19 F13
 refine zb (za ?_)
 refine s_as ?_
 refine zf (zd (zh (zj (zg (zw (zj (zg (zn ?_))))))))
 cases F13
 exact zk [] [] Tryz.results136
 refine zi (zW (zd (za ?_)))
 refine zJ (zas C5 B6 hn_g3) ?_
 refine s_mv ?_
 refine zf ?_
 exact s_rn (fu,(g3+1)) ⟨by first | omega | (dsimp only;omega),F13,by first | omega | (dsimp only;omega)⟩
 iterate 7 refine r_no rfl ?_
 refine zz ?_
 refine zf (zd (zaX rfl (zi (zd (zb (za ?_))))))
 refine zI yA32 yS32 ?_
 refine zu yA24 ?_
 refine zu yA27 ?_
 refine s_mv ?_
 obtain ⟨v20,V20,F9⟩:=zc F8
 refine zv [] (ih_m_impl_rowsOk fu (by omega) _ _ _ _ _ V20) ?_
 refine zaY ?_
 refine zf (zd ?_)
 refine zm F9 ?_ ?_<;>intro C21 F10
 refine zb (za ?_)
 refine s_as ?_
 refine zf (zd (zh (zj (zg (zw (zj (zg (zn ?_))))))))
 cases F10
 exact zk [] [] Tryz.results136
 refine zi (zW (zd (za ?_)))
 refine zJ (zas C5 B6 hn_g3) ?_
 refine s_mv ?_
 refine zf ?_
 exact s_rn (fu,(g3+1)) ⟨by first | omega | (dsimp only;omega),F10,by first | omega | (dsimp only;omega)⟩
 refine zy (zq (zo (zr (zd (zb (za ?_))))))
 refine s_as ?_
 refine zf (zd (zh (zn ?_)))
 cases F4
 exact zk [] [] Tryz.results136
theorem m_impl_rowsOk_all (fuel:Nat):zgy fuel:=by
 induction fuel using Nat.strongRecOn with
 | _ N ih =>
   cases N with
   | zero=>exact (by intro x1 x2 x3 x4 r h;rw [zc1] at h;cases h)
   | succ fu=>exact m_impl_rowsOk_st fu (fun k hk=>(ih k (by omega)))
theorem m_impl_rowsOk_ok (fuel:Nat):zgy fuel:=(m_impl_rowsOk_all fuel)
def m_impl_templateOk_AC (fuel:Nat):Prop:=∀ (x1:Form) (x2:(List Form)) (x3:(List Int)) (r:Bool),zdP fuel x1 x2 x3=some r→AC Tryz.prog 88 [.ag [.t (.sc (.int .i64 x1.kind)),.t (.sc (.str x1.name)),.t (.sc (.int .i64 x1.n)),.t (.sl (x1.scopes.map rI)),.t (.sl (x1.kids.map Form.row))],.t (.sl (x2.map Form.row)),.t (.sl (x3.map rI))] noOb (.t (.sc (.bool r))) noOb
theorem zhL (fuel:Nat):m_impl_templateOk_AC fuel:=by
 intro x1 x2 x3 r F0
 unfold zdP at F0
 refine AC_i [.t (.sc (.bool r))] Tryz.func88 rfl Tryz.ntmps88 ?_
 intro C hC
 refine zb (za ?_)
 refine zaL ?_
 refine s_as ?_
 refine zf (zd (zb (za ?_)))
 refine zI yA32 yS32 ?_
 obtain ⟨v1,V1,F1⟩:=zc F0
 refine zv [] (zcV fuel _ _ V1) ?_
 refine s_mv ?_
 refine zp _ 9 F1 ?_ ?_<;>intro C2 F2
 refine zI yA32 yS32 ?_
 obtain ⟨v3,V3,F3⟩:=zc F2
 refine zv [] (zbK fuel _ _ _ V3) ?_
 refine zaY ?_
 refine zA ?_
 refine s_mv ?_
 refine zp _ 14 F3 ?_ ?_<;>intro C4 F4
 refine zI yA32 yS32 ?_
 obtain ⟨v5,V5,F5⟩:=zc F4
 refine zv [] (m_impl_dotsOk_ok fuel _ _ _ V5) ?_
 refine zA ?_
 refine s_mv ?_
 refine zp _ 18 F5 ?_ ?_<;>intro C6 F6
 refine zI yA32 yS32 ?_
 refine s_mv ?_
 refine s_mv ?_
 obtain ⟨v7,V7,F7⟩:=zc F6
 refine zv [] (m_impl_rowsOk_ok fuel _ _ _ _ _ V7) ?_
 refine zA ?_
 refine s_as ?_
 refine zf (zd (zh (zn ?_)))
 cases F7
 exact zk [] [] Tryz.results88
 iterate 4 refine r_no rfl ?_
 refine zz ?_
 refine s_as ?_
 refine zf (zd (zh (zn ?_)))
 cases F6
 exact zk [] [] Tryz.results88
 refine r_no rfl (r_no rfl ?_)
 refine zz ?_
 refine s_mv ?_
 iterate 4 refine r_no rfl ?_
 refine zz ?_
 refine s_as ?_
 refine zf (zd (zh (zn ?_)))
 cases F4
 exact zk [] [] Tryz.results88
 iterate 3 refine r_no rfl ?_
 refine zz ?_
 refine s_mv ?_
 refine r_no rfl (r_no rfl ?_)
 refine zz ?_
 refine s_mv ?_
 iterate 4 refine r_no rfl ?_
 refine zz ?_
 refine s_as ?_
 refine zf (zd (zh (zn ?_)))
 cases F2
 exact zk [] [] Tryz.results88
def zi9 (fuel:Nat):Prop:=∀ (x1:Form) (x2:(List Hit)) (r:Bool),zdx fuel x1 x2=some r→AC Tryz.prog 41 [.ag [.t (.sc (.int .i64 x1.kind)),.t (.sc (.str x1.name)),.t (.sc (.int .i64 x1.n)),.t (.sl (x1.scopes.map rI)),.t (.sl (x1.kids.map Form.row))],.t (.sl (x2.map Hit.row))] noOb (.t (.sc (.bool r))) noOb
theorem zi8 (fuel:Nat):zi9 fuel:=by
 intro x1 x2 r F0
 unfold zdx at F0
 refine AC_i [.t (.sc (.bool r))] Tryz.func41 rfl Tryz.ntmps41 ?_
 intro C hC
 refine zb (za ?_)
 refine zaL ?_
 refine s_as ?_
 refine zf (zd (zb (za ?_)))
 refine s_mv ?_
 obtain ⟨v1,V1,F1⟩:=zc F0
 refine zv [] (m_impl_hitVars_ok fuel _ _ V1) ?_
 refine s_mv ?_
 refine zbf ?_
 refine zbf ?_
 refine s_as ?_
 refine s_as ?_
 refine zf (zd (zb (za ?_)))
 refine s_mv ?_
 obtain ⟨v2,V2,F2⟩:=zc F1
 refine zv [] (m_impl_HitsValid_ok fuel _ _ V2) ?_
 refine s_mv ?_
 refine zp _ 14 F2 ?_ ?_<;>intro C3 F3
 refine zI yA32 yS32 ?_
 refine s_mv ?_
 refine s_mv ?_
 obtain ⟨v4,V4,F4⟩:=zc F3
 refine zv [] (zhL fuel _ _ _ _ V4) ?_
 refine zA ?_
 refine s_as ?_
 refine zf (zd (zh (zn ?_)))
 cases F4
 exact zk [] [] Tryz.results41
 iterate 4 refine r_no rfl ?_
 refine zz ?_
 refine s_as ?_
 refine zf (zd (zh (zn ?_)))
 cases F3
 exact zk [] [] Tryz.results41
def m_slices_Clone_int_AC (fuel:Nat):Prop:=∀ (x1:(List Int)) (r:(List Int)),zef fuel x1=some r→AC Tryz.prog 129 [.t (.sl (x1.map rI))] noOb (.t (.sl (r.map rI))) noOb
theorem m_slices_Clone_int_ok (fuel:Nat):m_slices_Clone_int_AC fuel:=by
 intro x1 r F0
 unfold zef at F0
 refine AC_i [.t (.sl (r.map rI))] Tryz.func129 rfl Tryz.ntmps129 ?_
 intro C hC
 refine awp_nil 0 (fun hz=>?_) ?_
 replace hz:=List.map_eq_nil_iff.mp hz;subst hz;obtain ⟨_,F1⟩:=zad F0
 refine zb (za ?_)
 refine s_as ?_
 refine zf (zd (zb (zb (za ?_))))
 refine s_mv ?_
 refine s_nil yU27 ?_
 refine zf (zd (zT rfl ?_))
 refine zhA 0 ?_
 refine zhA 3 ?_
 refine zb (za ?_)
 refine s_as ?_
 refine zf (zd (zh (zg (zn ?_))))
 cases F1
 exact zk [] [] Tryz.results129
 refine zb (za ?_)
 refine s_as ?_
 refine zf (zd (zb (zb (za ?_))))
 refine s_mv ?_
 refine s_nil yU27 ?_
 refine zf (zd (zaX rfl ?_))
 refine zhA 0 ?_
 refine zhA 3 ?_
 refine zi (zd (zb (za ?_)))
 refine s_bs rI ([]:List Int) yP27 yR3 ?_
 refine s_mv ?_
 obtain ⟨hk1,F1⟩:=zad F0
 refine zek rI (fun _=>rfl) hk1 yP27 ?_
 refine s_as ?_
 refine zf (zd (zh (zn ?_)))
 cases F1
 exact zk [] [7] Tryz.results129
def zfx (fuel:Nat):Prop:=∀ (x1:Form) (r:Form),zaT fuel x1=some r→AC Tryz.prog 79 [.ag [.t (.sc (.int .i64 x1.kind)),.t (.sc (.str x1.name)),.t (.sc (.int .i64 x1.n)),.t (.sl (x1.scopes.map rI)),.t (.sl (x1.kids.map Form.row))]] noOb (.ag [.t (.sc (.int .i64 r.kind)),.t (.sc (.str r.name)),.t (.sc (.int .i64 r.n)),.t (.sl (r.scopes.map rI)),.t (.sl (r.kids.map Form.row))]) noOb
theorem m_impl_copyForm_st (fu:Nat) (ih_m_impl_copyForm:∀ k,k≤fu→zfx k):zfx (fu+1):=by
 intro x1 r F0
 rw [zaT] at F0
 refine AC_i [.ag [.t (.sc (.int .i64 r.kind)),.t (.sc (.str r.name)),.t (.sc (.int .i64 r.n)),.t (.sl (r.scopes.map rI)),.t (.sl (r.kids.map Form.row))]] Tryz.func79 rfl Tryz.ntmps79 ?_
 intro C hC
 refine zb (za ?_)
 refine zaL ?_
 refine zU yZ32 ?_
 refine zf (zd (zb ?_))
 refine zO yMix (by kernel_rfl) ?_
 refine s_fa zcY ?_
 refine zu yA3 ?_
 refine s_fa zcm ?_
 refine zu yA9 ?_
 refine s_fa zhq ?_
 refine zu yA3 ?_
 refine s_fa zf3 ?_
 refine zu yA27 ?_
 obtain ⟨v1,V1,F1⟩:=zc F0
 refine zv [] (m_slices_Clone_int_ok fu _ _ V1) ?_
 refine zgD yZ32 yL32 ?_
 refine zU yZ32 ?_
 refine zac yS32 ?_
 refine zae (by kernel_rfl) ?_
 refine zd (zb (zb (za ?_)))
 refine s_fa zF ?_
 refine zu yA24 ?_
 refine zC yU24 ?_
 refine s_mv ?_
 refine zf (zd (zl ?_))
 refine awp_ownB 3 5020 32 [.t (.sc (.int .i64 x1.kind)),.t (.sc (.str x1.name)),.t (.sc (.int .i64 x1.n)),.t (.sl (v1.map rI)),.ar 5020] yI32.choose_spec ?_
 refine zal [5,19,20,21,22,23,24,25,26,27,28,29,30] [3,5020] [5,27,28] [5020] (fun a:Nat × Int × (List Form)=>a.1) (fun a:Nat × Int × (List Form)=>[(19,.t (.sc (.int .i64 a.2.1)))]) (fun a:Nat × Int × (List Form)=>[(3,.box [.t (.sc (.int .i64 x1.kind)),.t (.sc (.str x1.name)),.t (.sc (.int .i64 x1.n)),.t (.sl (v1.map rI)),.ar 5020]),(5020,.arr (a.2.2.map Form.row) 32 true)]) (fun a:Nat × Int × (List Form)=>a.1≤fu∧zct a.1 x1 v1 a.2.1 a.2.2=some r∧0≤a.2.1) (fu,0,([]:List Form)) ⟨Nat.le_refl _,F1,by simp⟩ (by rfl) (by rfl) (fun _=>rfl) (zH (by conv=>lhs;whnf) (by rfl) zaV) (zL (by conv=>lhs;whnf) (by rfl) (zL (by conv=>lhs;whnf) (by rfl) zaG)) (zbM hC rfl) (by repeat (first | exact z6 rfl | refine zaj rfl ?_ | refine zP rfl ?_)) (by repeat (first | exact zax | exact z9 rfl | refine zak rfl ?_ | refine zQ rfl ?_)) ?_
 clear F1
 rintro ⟨fu,g2,g3⟩ ⟨hl4,F2,hn_g2⟩
 dsimp only at hl4 F2 hn_g2 ⊢
 obtain _ | fu:=fu
 · rw [zct] at F2;cases F2
 rw [zct] at F2
 refine zb (za ?_)
 refine s_lt ?_
 refine zf (zd (zb ?_))
 refine zm F2 ?_ ?_<;>intro C5 F3
 refine zM 17 (fun B6=>?_)
 refine zi (zd (zb (zl (zb (za ?_)))))
 obtain ⟨v7,V7,F4⟩:=zc F3
 refine zK Form.row V7 (Form.row_eq _) yE24 ?_
 refine zam yA32 yS32 ?_
 refine zU yZ32 ?_
 refine zac yS32 ?_
 refine zf (zd ?_)
 refine zO yMix (by kernel_rfl) ?_
 refine s_fa zF ?_
 refine zu yA24 ?_
 refine zI yA32 yS32 ?_
 obtain ⟨v8,V8,F5⟩:=zc F4
 refine zv [] (ih_m_impl_copyForm fu (by omega) _ _ V8) ?_
 refine s_bs Form.row [v8] yP24 yR32 ?_
 obtain ⟨hk9,F6⟩:=zad F5
 refine zek Form.row (fun y=>Form.row_len y) hk9 yP24 ?_
 refine s_fa zF ?_
 refine zia yS24 ?_
 refine zae (by kernel_rfl) ?_
 refine zW (zd (za ?_))
 refine zJ (zas C5 B6 hn_g2) ?_
 refine s_mv ?_
 refine zf ?_
 exact s_rn (fu,(g2+1),(g3++[v8])) ⟨by first | omega | (dsimp only;omega),F6,by first | omega | (dsimp only;omega)⟩ [(5020,28)]
 refine zy (zq (zo (zr (zd (zb (za ?_))))))
 refine zI yA32 yS32 ?_
 refine zac yS32 ?_
 refine zf (zd (zh (zn ?_)))
 cases F3
 exact z4 [] [5020] (by rw [Tryz.results79];exact (zat (by conv=>lhs;whnf) (by conv=>lhs;whnf) yA32 yS32 rfl zaf))
end Go.Abs
