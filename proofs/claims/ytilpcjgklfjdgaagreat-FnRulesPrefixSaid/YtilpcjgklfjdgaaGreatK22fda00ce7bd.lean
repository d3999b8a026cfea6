/- A part of the proof: what the functions that the law calls answer, as pure values. -/
import Derived.Test.YtilpcjgklfjdgaaGreatKbeececb3b691
import Derived.Test.YtilpcjgklfjdgaaGreatK349a5dde2cfa
import Derived.Test.YtilpcjgklfjdgaaGreatK5bebff7b483b
import Derived.Test.YtilpcjgklfjdgaaGreatK25b6b0d87810
import Derived.Test.YtilpcjgklfjdgaaGreatK944daf6655d5
set_option linter.unusedSimpArgs false
set_option linter.unusedVariables false
set_option maxRecDepth 100000
set_option maxHeartbeats 4000000
namespace Go.Abs
open Go.Proofs
theorem m_impl_copyForm_all (fuel:Nat):zfx fuel:=by
 induction fuel using Nat.strongRecOn with
 | _ N ih =>
   cases N with
   | zero=>exact (by intro x1 r h;rw [zaT] at h;cases h)
   | succ fu=>exact m_impl_copyForm_st fu (fun k hk=>(ih k (by omega)))
theorem zdk (fuel:Nat):zfx fuel:=(m_impl_copyForm_all fuel)
def zfy (fuel:Nat):Prop:=∀ (x1:Form) (r:Int),zdh fuel x1=some r→AC Tryz.prog 22 [.ag [.t (.sc (.int .i64 x1.kind)),.t (.sc (.str x1.name)),.t (.sc (.int .i64 x1.n)),.t (.sl (x1.scopes.map rI)),.t (.sl (x1.kids.map Form.row))]] noOb (.t (.sc (.int .i64 r))) noOb
theorem m_impl_FormSize_st (fu:Nat) (ih_m_impl_FormSize:∀ k,k≤fu→zfy k):zfy (fu+1):=by
 intro x1 r F0
 rw [zdh] at F0
 refine AC_i [.t (.sc (.int .i64 r))] Tryz.func22 rfl Tryz.ntmps22 ?_
 intro C hC
 refine zb (za ?_)
 refine zaL ?_
 refine s_as ?_
 refine zf (zd (zb (za ?_)))
 refine s_as ?_
 refine zf (zd (zb (zb (za ?_))))
 refine s_fa zF ?_
 refine zu yA24 ?_
 refine zC yU24 ?_
 refine s_mv ?_
 refine zf (zd (zl ?_))
 refine zaK (β:=Int × Int) [3,5,9,10,11,12,13,14,15,16,17] [] [5] (fun a=>[(3,.t (.sc (.int .i64 a.2.1))),(9,.t (.sc (.int .i64 a.2.2)))]) (fun a=>[]) (fun a=>a.1≤fu∧zb1 a.1 x1 a.2.1 a.2.2=some r∧0≤a.2.2) (fu,1,0) ⟨Nat.le_refl _,F0,by simp⟩ ?_
 clear F0
 rintro ⟨fu,g1,g2⟩ ⟨hl3,F1,hn_g2⟩
 dsimp only at hl3 F1 hn_g2 ⊢
 obtain _ | fu:=fu
 · rw [zb1] at F1;cases F1
 rw [zb1] at F1
 refine zb (za ?_)
 refine s_lt ?_
 refine zf (zd (zb ?_))
 refine zm F1 ?_ ?_<;>intro C4 F2
 refine zM 7 (fun B5=>?_)
 refine zi (zd (zb (zl (zb (za ?_)))))
 obtain ⟨v6,V6,F3⟩:=zc F2
 refine zK Form.row V6 (Form.row_eq _) yE24 ?_
 refine zam yA32 yS32 ?_
 refine zU yZ32 ?_
 refine zac yS32 ?_
 refine zf (zd (za ?_))
 refine s_mv ?_
 refine zI yA32 yS32 ?_
 obtain ⟨v7,V7,F4⟩:=zc F3
 refine zv [] (ih_m_impl_FormSize fu (by omega) _ _ V7) ?_
 refine zJ rfl ?_
 refine s_as ?_
 refine zf (zW (zd (za ?_)))
 refine zJ (zas C4 B5 hn_g2) ?_
 refine s_mv ?_
 refine zf ?_
 exact s_rn (fu,(w64 (g1+v7)),(g2+1)) ⟨by first | omega | (dsimp only;omega),F4,by first | omega | (dsimp only;omega)⟩
 refine zy (zq (zo (zr (zd (zb (za ?_))))))
 refine s_mv ?_
 refine s_as ?_
 refine zf (zd (zh (zn ?_)))
 cases F2
 exact zk [] [] Tryz.results22
theorem m_impl_FormSize_all (fuel:Nat):zfy fuel:=by
 induction fuel using Nat.strongRecOn with
 | _ N ih =>
   cases N with
   | zero=>exact (by intro x1 r h;rw [zdh] at h;cases h)
   | succ fu=>exact m_impl_FormSize_st fu (fun k hk=>(ih k (by omega)))
theorem m_impl_FormSize_ok (fuel:Nat):zfy fuel:=(m_impl_FormSize_all fuel)
def m_impl_fill_2_AC (fuel:Nat):Prop:=∀ (x1:Form) (o1:Bool) (o2:Hit) (r:Bool),zhR fuel x1 o1 o2=some r→AC Tryz.prog 90 [.ag [.t (.sc (.int .i64 x1.kind)),.t (.sc (.str x1.name)),.t (.sc (.int .i64 x1.n)),.t (.sl (x1.scopes.map rI)),.t (.sl (x1.kids.map Form.row))],.rf 9000 0,.rf 9001 0] (objs [(9000,.box [.t (.sc (.bool o1))]),(9001,.box [.t (.sc (.int .i64 o2.name.kind)),.t (.sc (.str o2.name.name)),.t (.sc (.int .i64 o2.name.n)),.t (.sl (o2.name.scopes.map rI)),.t (.sl (o2.name.kids.map Form.row)),.t (.sc (.int .i64 o2.depth)),.t (.sc (.int .i64 o2.one.kind)),.t (.sc (.str o2.one.name)),.t (.sc (.int .i64 o2.one.n)),.t (.sl (o2.one.scopes.map rI)),.t (.sl (o2.one.kids.map Form.row)),.t (.sl (o2.many.map Hit.row))])]) (.tp []) (objs [(9000,.box [.t (.sc (.bool r))]),(9001,.box [.t (.sc (.int .i64 o2.name.kind)),.t (.sc (.str o2.name.name)),.t (.sc (.int .i64 o2.name.n)),.t (.sl (o2.name.scopes.map rI)),.t (.sl (o2.name.kids.map Form.row)),.t (.sc (.int .i64 o2.depth)),.t (.sc (.int .i64 o2.one.kind)),.t (.sc (.str o2.one.name)),.t (.sc (.int .i64 o2.one.n)),.t (.sl (o2.one.scopes.map rI)),.t (.sl (o2.one.kids.map Form.row)),.t (.sl (o2.many.map Hit.row))])])
theorem m_impl_fill_2_ok (fuel:Nat):m_impl_fill_2_AC fuel:=by
 intro x1 o1 o2 r F0
 unfold zhR at F0
 refine AC_i [] Tryz.func90 rfl Tryz.ntmps90 ?_
 intro C hC
 refine zb (za ?_)
 refine zaL ?_
 refine zf (zd (za ?_))
 refine zu yA4 ?_
 refine s_mv ?_
 refine zp _ 5 F0 ?_ ?_<;>intro C1 F1
 iterate 4 refine r_no rfl ?_
 refine zA ?_
 refine zac yS4 ?_
 refine zf (zhy ?_)
 cases F1
 exact zk _ [] Tryz.results90
 refine zI yA32 yS32 ?_
 refine s_fa zix ?_
 refine zam yA32 yS32 ?_
 obtain ⟨v2,V2,F2⟩:=zc F1
 refine zv [] (zaU fuel _ _ _ V2) ?_
 refine zz ?_
 refine zac yS4 ?_
 refine zf (zhy ?_)
 cases F2
 exact zk _ [] Tryz.results90
def zc3 (fuel:Nat):Prop:=∀ (x1:Form) (o1:Bool) (o2:Hit) (r:Bool),za3 fuel x1 o1 o2=some r→AC Tryz.prog 50 [.ag [.t (.sc (.int .i64 x1.kind)),.t (.sc (.str x1.name)),.t (.sc (.int .i64 x1.n)),.t (.sl (x1.scopes.map rI)),.t (.sl (x1.kids.map Form.row))],.fn 90 [.rf 9000 0,.rf 9001 0]] (objs [(9000,.box [.t (.sc (.bool o1))]),(9001,.box [.t (.sc (.int .i64 o2.name.kind)),.t (.sc (.str o2.name.name)),.t (.sc (.int .i64 o2.name.n)),.t (.sl (o2.name.scopes.map rI)),.t (.sl (o2.name.kids.map Form.row)),.t (.sc (.int .i64 o2.depth)),.t (.sc (.int .i64 o2.one.kind)),.t (.sc (.str o2.one.name)),.t (.sc (.int .i64 o2.one.n)),.t (.sl (o2.one.scopes.map rI)),.t (.sl (o2.one.kids.map Form.row)),.t (.sl (o2.many.map Hit.row))])]) (.tp []) (objs [(9000,.box [.t (.sc (.bool r))]),(9001,.box [.t (.sc (.int .i64 o2.name.kind)),.t (.sc (.str o2.name.name)),.t (.sc (.int .i64 o2.name.n)),.t (.sl (o2.name.scopes.map rI)),.t (.sl (o2.name.kids.map Form.row)),.t (.sc (.int .i64 o2.depth)),.t (.sc (.int .i64 o2.one.kind)),.t (.sc (.str o2.one.name)),.t (.sc (.int .i64 o2.one.n)),.t (.sl (o2.one.scopes.map rI)),.t (.sl (o2.one.kids.map Form.row)),.t (.sl (o2.many.map Hit.row))])])
theorem zit (fu:Nat) (ih_m_impl_eachForm_fill_2:∀ k,k≤fu→zc3 k):zc3 (fu+1):=by
 intro x1 o1 o2 r F0
 rw [za3] at F0
 refine AC_i [] Tryz.func50 rfl Tryz.ntmps50 ?_
 intro C hC
 refine zb (za ?_)
 refine zaL ?_
 refine zf (zd (zb (za ?_)))
 refine s_mv ?_
 refine zI yA32 yS32 ?_
 obtain ⟨v1,V1,F1⟩:=zc F0
 refine zY [(9000,9000),(9001,9001)] [] _ _ (m_impl_fill_2_ok fu _ _ _ _ V1) ?_
 refine zf (zd (zb (za ?_)))
 refine s_fa zF ?_
 refine zu yA24 ?_
 refine zC yU24 ?_
 refine s_mv ?_
 refine zf (zd (zl ?_))
 refine zaK (β:=Int × Bool) [5,12,13,14,15,16,17,18,19] [9000] [5] (fun a=>[(12,.t (.sc (.int .i64 a.2.1)))]) (fun a=>[(9000,.box [.t (.sc (.bool a.2.2))])]) (fun a=>a.1≤fu∧zaD a.1 x1 o2 a.2.1 a.2.2=some r∧0≤a.2.1) (fu,0,v1) ⟨Nat.le_refl _,F1,by simp⟩ ?_
 clear F1
 rintro ⟨fu,g2,g3⟩ ⟨hl4,F2,hn_g2⟩
 dsimp only at hl4 F2 hn_g2 ⊢
 obtain _ | fu:=fu
 · rw [zaD] at F2;cases F2
 rw [zaD] at F2
 refine zb (za ?_)
 refine s_lt ?_
 refine zf (zd (zb ?_))
 refine zm F2 ?_ ?_<;>intro C5 F3
 refine zM 10 (fun B6=>?_)
 refine zi (zd (zb (zl (zb (za ?_)))))
 obtain ⟨v7,V7,F4⟩:=zc F3
 refine zK Form.row V7 (Form.row_eq _) yE24 ?_
 refine zam yA32 yS32 ?_
 refine zU yZ32 ?_
 refine zac yS32 ?_
 refine zf (zd (za ?_))
 refine zI yA32 yS32 ?_
 refine s_mv ?_
 obtain ⟨v8,V8,F5⟩:=zc F4
 refine zY [(9000,9000),(9001,9001)] [] _ _ (ih_m_impl_eachForm_fill_2 fu (by omega) _ _ _ _ V8) ?_
 refine zf (zW (zd (za ?_)))
 refine zJ (zas C5 B6 hn_g2) ?_
 refine s_mv ?_
 refine zf ?_
 exact s_rn (fu,(g2+1),v8) ⟨by first | omega | (dsimp only;omega),F5,by first | omega | (dsimp only;omega)⟩
 refine zy (zq (zo (zr (zhy ?_))))
 cases F3
 exact zk _ [] Tryz.results50
theorem zib (fuel:Nat):zc3 fuel:=by
 induction fuel using Nat.strongRecOn with
 | _ N ih =>
   cases N with
   | zero=>exact (by intro x1 o1 o2 r h;rw [za3] at h;cases h)
   | succ fu=>exact zit fu (fun k hk=>(ih k (by omega)))
theorem ziu (fuel:Nat):zc3 fuel:=(zib fuel)
def m_slices_Clone_Hit_AC (fuel:Nat):Prop:=∀ (x1:(List Hit)) (r:(List Hit)),zfw fuel x1=some r→AC Tryz.prog 91 [.t (.sl (x1.map Hit.row))] (objs []) (.ar 9200) (objs [(9200,.arr (r.map Hit.row) 48 true)])
theorem m_slices_Clone_Hit_ok (fuel:Nat):m_slices_Clone_Hit_AC fuel:=by
 intro x1 r F0
 unfold zfw at F0
 refine AC_i [.ar 9200] Tryz.func91 rfl Tryz.ntmps91 ?_
 intro C hC
 refine awp_nil 0 (fun hz=>?_) ?_
 replace hz:=List.map_eq_nil_iff.mp hz;subst hz;obtain ⟨_,F1⟩:=zad F0
 refine zb (za ?_)
 refine s_as ?_
 refine zf (zd (zb (zb (za ?_))))
 refine s_mv ?_
 refine s_nil yU42 ?_
 refine zf (zd (zT rfl ?_))
 refine zhA 0 ?_
 refine zhA 3 ?_
 refine zb (za ?_)
 refine s_as ?_
 refine zf (zd ?_)
 refine awp_own 2 9200 48 yI48.choose_spec ?_
 refine zh (zg (zn ?_))
 cases F1
 exact zk _ [] Tryz.results91
 refine zb (za ?_)
 refine s_as ?_
 refine zf (zd (zb (zb (za ?_))))
 refine s_mv ?_
 refine s_nil yU42 ?_
 refine zf (zd (zaX rfl ?_))
 refine zhA 0 ?_
 refine zhA 3 ?_
 refine zi (zd (zb (za ?_)))
 refine s_bs Hit.row ([]:List Hit) yP42 yR48 ?_
 refine s_mv ?_
 obtain ⟨hk1,F1⟩:=zad F0
 refine zek Hit.row (fun y=>Hit.row_len y) hk1 yP42 ?_
 refine s_as ?_
 refine zf (zd ?_)
 refine zcZ 2 7 9200 (by conv=>lhs;whnf) (by conv=>lhs;whnf) rfl ?_
 refine zh (zn ?_)
 cases F1
 exact zk _ [] Tryz.results91
def zgm (fuel:Nat):Prop:=∀ (x1:Form) (x2:(List Hit)) (r:(Form × Bool)),zer fuel x1 x2=some r→AC Tryz.prog 42 [.ag [.t (.sc (.int .i64 x1.kind)),.t (.sc (.str x1.name)),.t (.sc (.int .i64 x1.n)),.t (.sl (x1.scopes.map rI)),.t (.sl (x1.kids.map Form.row))],.t (.sl (x2.map Hit.row))] noOb (.tp [.ag [.t (.sc (.int .i64 r.1.kind)),.t (.sc (.str r.1.name)),.t (.sc (.int .i64 r.1.n)),.t (.sl (r.1.scopes.map rI)),.t (.sl (r.1.kids.map Form.row))],.t (.sc (.bool r.2))]) noOb
def zgA (fuel:Nat):Prop:=∀ (x1:Form) (x2:(List Hit)) (o1:Int) (o2:Form) (r:(Bool × Int × Form)),zeh fuel x1 x2 o1 o2=some r→AC Tryz.prog 89 [.ag [.t (.sc (.int .i64 x1.kind)),.t (.sc (.str x1.name)),.t (.sc (.int .i64 x1.n)),.t (.sl (x1.scopes.map rI)),.t (.sl (x1.kids.map Form.row))],.t (.sl (x2.map Hit.row)),.rf 9000 0,.rf 9001 0] (objs [(9000,.box [.t (.sc (.int .i64 o1))]),(9001,.box [.t (.sc (.int .i64 o2.kind)),.t (.sc (.str o2.name)),.t (.sc (.int .i64 o2.n)),.t (.sl (o2.scopes.map rI)),.ar 9444]),(9444,.arr (o2.kids.map Form.row) 32 true)]) (.t (.sc (.bool r.1))) (objs [(9000,.box [.t (.sc (.int .i64 r.2.1))]),(9001,.box [.t (.sc (.int .i64 r.2.2.kind)),.t (.sc (.str r.2.2.name)),.t (.sc (.int .i64 r.2.2.n)),.t (.sl (r.2.2.scopes.map rI)),.ar 10444]),(9444,.dead),(10444,.arr (r.2.2.kids.map Form.row) 32 true)])
theorem m_impl_fill_st (fu:Nat) (ih_m_impl_fill:∀ k,k≤fu→zgm k) (ih_m_impl_fill_1:∀ k,k≤fu→zgA k):zgm (fu+1):=by
 intro x1 x2 r F0
 rw [zer] at F0
 refine AC_i [.ag [.t (.sc (.int .i64 r.1.kind)),.t (.sc (.str r.1.name)),.t (.sc (.int .i64 r.1.n)),.t (.sl (r.1.scopes.map rI)),.t (.sl (r.1.kids.map Form.row))],.t (.sc (.bool r.2))] Tryz.func42 rfl Tryz.ntmps42 ?_
 intro C hC
 refine zb (za ?_)
 refine zaL ?_
 refine zU yZ32 ?_
 refine s_as ?_
 refine zf (zd (zb (zb (za ?_))))
 refine s_fa zcY ?_
 refine zu yA3 ?_
 refine s_eq ?_
 refine zf (zd ?_)
 refine zm F0 ?_ ?_<;>intro C1 F1
 refine zb (zb (za ?_))
 refine s_mv ?_
 refine zI yA32 yS32 ?_
 obtain ⟨v2,V2,F2⟩:=zc F1
 refine zv [] (m_impl_hitAt_ok fu _ _ _ V2) ?_
 refine s_as ?_
 refine zf (zd (zb (za ?_)))
 refine s_mv ?_
 refine s_ge ?_
 refine zf (zd ?_)
 refine zm F2 ?_ ?_<;>intro C3 F3
 refine zb (za ?_)
 refine s_mv ?_
 refine s_mv ?_
 obtain ⟨v4,V4,F4⟩:=zc F3
 refine zK Hit.row V4 (Hit.row_eq _) yE42 ?_
 refine s_fa yF48_2 ?_
 refine zam yA32 yS32 ?_
 obtain ⟨v5,V5,F5⟩:=zc F4
 refine zv [] (zdk fu _ _ V5) ?_
 refine zac yS32 ?_
 refine s_as ?_
 refine zf (zd (zh (zg (zg (zn ?_)))))
 cases F5
 exact z4 [] [] (by rw [Tryz.results42];exact (zat (by conv=>lhs;whnf) (by conv=>lhs;whnf) yA32 yS32 rfl (zai (by conv=>lhs;whnf) zaf)))
 refine zi (zd (zb (za ?_)))
 refine zI yA32 yS32 ?_
 obtain ⟨v6,V6,F4⟩:=zc F3
 refine zv [] (zdk fu _ _ V6) ?_
 refine zac yS32 ?_
 refine s_as ?_
 refine zf (zd (zh (zg (zn ?_))))
 cases F4
 exact z4 [] [] (by rw [Tryz.results42];exact (zat (by conv=>lhs;whnf) (by conv=>lhs;whnf) yA32 yS32 rfl (zai (by conv=>lhs;whnf) zaf)))
 refine zi (zd (zb (za ?_)))
 refine s_fa zcY ?_
 refine zu yA3 ?_
 refine s_fa zhq ?_
 refine zu yA3 ?_
 refine zgD yZ32 yL32 ?_
 refine zU yZ32 ?_
 refine zU yZ3 ?_
 refine zac yS32 ?_
 refine zac yS3 ?_
 refine zf (zd ?_)
 refine awp_ownB 7 8144 32 [.t (.sc (.int .i64 x1.kind)),.t (.sc (.str (⟨#[]⟩:ByteArray))),.t (.sc (.int .i64 x1.n)),.nl,.ar 8144] yI32.choose_spec ?_
 refine zb (za ?_)
 refine s_fn ?_
 refine s_as ?_
 refine zf (zd (zb (zb (za ?_))))
 refine s_fa zF ?_
 refine zu yA24 ?_
 refine zC yU24 ?_
 refine s_mv ?_
 refine zf (zd (zl ?_))
 refine zeR 7 8144 5020 [.t (.sc (.int .i64 x1.kind)),.t (.sc (.str (⟨#[]⟩:ByteArray))),.t (.sc (.int .i64 x1.n)),.nl,.ar 5020] ?_
 refine awp_nlB 7 3 [.t (.sc (.int .i64 x1.kind)),.t (.sc (.str (⟨#[]⟩:ByteArray))),.t (.sc (.int .i64 x1.n)),.t (.sl (([]:List Int).map rI)),.ar 5020] (by conv=>lhs;whnf) rfl rfl ?_
 refine zal [5,10,11,12,13,14,15,16,17,18,20,46,47,48,49,50,51,52,53,54,55,56,57,58,59,60,61,62,63,64,65,66,67,68,69,70,71,72,73,74,75,76,77,78,79,80,81,82,83,84,85,86,87,88,89,90,91,92,93,94,95,96,97,98,99,100,101,102,103,104,105,106,107,108,109,110,111,112,113,114,115,116,117,118,119,120,121,122,123,124,125,126,127,128,129,130,131,132,133,134,135,136,137,138,139,140,141,142] [7,8,5020] [11,75,5080,5140,32072] [5020] (fun a:Nat × Int × Int × ByteArray × Int × (List Int) × (List Form) × Int=>a.1) (fun a:Nat × Int × Int × ByteArray × Int × (List Int) × (List Form) × Int=>[(46,.t (.sc (.int .i64 a.2.1)))]) (fun a:Nat × Int × Int × ByteArray × Int × (List Int) × (List Form) × Int=>[(7,.box [.t (.sc (.int .i64 a.2.2.1)),.t (.sc (.str a.2.2.2.1)),.t (.sc (.int .i64 a.2.2.2.2.1)),.t (.sl (a.2.2.2.2.2.1.map rI)),.ar 5020]),(8,.box [.t (.sc (.int .i64 a.2.2.2.2.2.2.2))]),(5020,.arr (a.2.2.2.2.2.2.1.map Form.row) 32 true)]) (fun a:Nat × Int × Int × ByteArray × Int × (List Int) × (List Form) × Int=>a.1≤fu∧zb5 a.1 x1 x2 a.2.1 a.2.2.1 a.2.2.2.1 a.2.2.2.2.1 a.2.2.2.2.2.1 a.2.2.2.2.2.2.1 a.2.2.2.2.2.2.2=some r) (fu,0,x1.kind,(⟨#[]⟩:ByteArray),x1.n,([]:List Int),([]:List Form),0) ⟨Nat.le_refl _,F1⟩ (by rfl) (by rfl) (fun _=>rfl) (zH (by conv=>lhs;whnf) (by rfl) zaV) (zL (by conv=>lhs;whnf) (by rfl) (zL (by conv=>lhs;whnf) (by rfl) (zL (by conv=>lhs;whnf) (by rfl) zaG))) (zbM hC rfl) (by repeat (first | exact z6 rfl | refine zaj rfl ?_ | refine zP rfl ?_)) (by repeat (first | exact zax | exact z9 rfl | refine zak rfl ?_ | refine zQ rfl ?_)) ?_
 clear F1
 rintro ⟨fu,g7,g8,g9,g10,g11,g12,g13⟩ ⟨hl14,F2⟩
 dsimp only at hl14 F2 ⊢
 obtain _ | fu:=fu
 · rw [zb5] at F2;cases F2
 rw [zb5] at F2
 refine zb (za ?_)
 refine s_lt ?_
 refine zf (zd (zb ?_))
 refine zm F2 ?_ ?_<;>intro C15 F3
 refine zM 44 (fun B16=>?_)
 refine zi (zd (zb (zl (zb (za ?_)))))
 refine s_mv ?_
 obtain ⟨v17,V17,F4⟩:=zc F3
 refine zK Form.row V17 (Form.row_eq _) yE24 ?_
 refine zam yA32 yS32 ?_
 refine zU yZ32 ?_
 refine s_as ?_
 refine zac yS32 ?_
 refine zf (zd (zb (zb (za ?_))))
 refine zI yA32 yS32 ?_
 obtain ⟨v18,V18,F5⟩:=zc F4
 refine zv [] (zbK fu _ _ _ V18) ?_
 refine zf (zd ?_)
 refine zm F5 ?_ ?_<;>intro C19 F6
 refine zy (zq (zr (zd (za ?_))))
 refine zJ (zas C15 B16 (zdE V17).1) ?_
 refine s_mv ?_
 refine zf ?_
 exact s_rn (fu,(g7+1),g8,g9,g10,g11,g12,g13) ⟨by first | omega | (dsimp only;omega),F6⟩
 refine zi (zd (zb ?_))
 refine zbb (α:=Nat × Bool) [53,54,55,56,57,58,59,60,61,62,63,64,65,66,67,68] [] [] (fun a=>[(68,.t (.sc (.bool a.2)))]) (fun a=>[]) (fun a=>a.1≤fu∧zb6 a.1 x1 x2 g7 g8 g9 g10 g11 g12 g13 v17 a.2=some r) ?_ ?_
 refine za ?_
 refine s_mv ?_
 refine zJ (zas C15 B16 (zdE V17).1) ?_
 refine s_fa zF ?_
 refine zu yA24 ?_
 refine zC yU24 ?_
 refine s_eq ?_
 refine s_mv ?_
 refine zp _ 59 F6 ?_ ?_<;>intro C20 F7
 iterate 8 refine r_no rfl ?_
 refine zA ?_
 refine zf ?_
 exact s_jn (fu,true) ⟨by first | omega | (dsimp only;omega),F7⟩
 refine s_fa zF ?_
 refine zu yA24 ?_
 refine s_mv ?_
 refine zJ (zas C15 B16 (zdE V17).1) ?_
 obtain ⟨v21,V21,F8⟩:=zc F7
 refine zK Form.row V21 (Form.row_eq _) yE24 ?_
 refine zam yA32 yS32 ?_
 obtain ⟨v22,V22,F9⟩:=zc F8
 refine zv [] (zbK fu _ _ _ V22) ?_
 refine zaY ?_
 refine zz ?_
 refine zf ?_
 exact s_jn (fu,(!v22)) ⟨by first | omega | (dsimp only;omega),F9⟩
 clear F6
 rintro ⟨fu,g23⟩ ⟨hl24,F7⟩
 dsimp only at hl24 F7 ⊢
 obtain _ | fu:=fu
 · rw [zb6] at F7;cases F7
 rw [zb6] at F7
 refine zm F7 ?_ ?_<;>intro C25 F8
 refine zb (zb (za ?_))
 refine s_mv ?_
 refine zI yA32 yS32 ?_
 refine s_mv ?_
 obtain ⟨v26,V26,F9⟩:=zc F8
 refine zY [(9000,8),(9001,7),(9444,5020),(10444,32072)] [] _ _ (ih_m_impl_fill_1 fu (by omega) _ _ _ _ _ V26) ?_
 refine zaY ?_
 refine zf (zd ?_)
 refine zm F9 ?_ ?_<;>intro C27 F10
 refine zb (za ?_)
 refine zgD yZ32 yL32 ?_
 refine zac yS32 ?_
 refine s_as ?_
 refine zf (zd (zh (zg (zg (zj (zg (zw (zj (zg (zn ?_))))))))))
 cases F10
 exact z4 [] [] (by rw [Tryz.results42];exact (zat (by conv=>lhs;whnf) (by conv=>lhs;whnf) yA32 yS32 rfl (zai (by conv=>lhs;whnf) zaf)))
 refine zi (zd (zy (zq (zr (zd (za ?_))))))
 refine zJ (zas C15 B16 (zdE V17).1) ?_
 refine s_mv ?_
 refine zf ?_
 exact s_rn (fu,(g7+1),v26.2.2.kind,v26.2.2.name,v26.2.2.n,v26.2.2.scopes,v26.2.2.kids,v26.2.1) ⟨by first | omega | (dsimp only;omega),F10⟩ [(5020,32072)]
 refine zi (zd (zb (za ?_)))
 refine s_bs rI ([]:List Int) yP27 yR3 ?_
 refine s_as ?_
 refine s_as ?_
 refine zf (zd ?_)
 refine zbb (α:=Nat × Int × (List Int)) [5,12,13,14,15,16,76,77,78,79,80,81,82,83,84,85,86,87,88,89,90,91,92,93,94,95,96,97,98,99,100,101,102,103,104,105,106,107,108,109,110] [75,5080] [] (fun a=>[(12,.ar 5080),(13,.t (.sc (.int .i64 a.2.1)))]) (fun a=>[(75,.dead),(5080,.arr (a.2.2.map rI) 3 true)]) (fun a=>a.1≤fu∧zfo a.1 x1 x2 g7 g8 g9 g10 g11 g12 g13 v17 a.2.1 a.2.2=some r) ?_ ?_
 refine zb (za ?_)
 refine s_mv ?_
 refine zC yU42 ?_
 refine s_mv ?_
 refine zf (zd (zl ?_))
 refine zcZ 12 75 5080 (by conv=>lhs;whnf) (by conv=>lhs;whnf) rfl ?_
 refine zal [5,12,13,14,15,16,78,79,80,81,82,83,84,85,86,87,88,89,90,91,92,93,94,95,96,97,98,99,100,101,102,103,104,105,106,107,108,109,110] [5080] [15,16,95,96] [5080] (fun a:Nat × Int × (List Int) × Int=>a.1) (fun a:Nat × Int × (List Int) × Int=>[(12,.ar 5080),(13,.t (.sc (.int .i64 a.2.2.2))),(78,.t (.sc (.int .i64 a.2.1)))]) (fun a:Nat × Int × (List Int) × Int=>[(5080,.arr (a.2.2.1.map rI) 3 true)]) (fun a:Nat × Int × (List Int) × Int=>a.1≤fu∧zcn a.1 x1 x2 g7 g8 g9 g10 g11 g12 g13 v17 a.2.1 a.2.2.1 a.2.2.2=some r∧0≤a.2.1) (fu,0,([]:List Int),(-1)) ⟨Nat.le_refl _,F8,by simp⟩ (by rfl) (by rfl) (fun _=>rfl) (zH (by conv=>lhs;whnf) (by rfl) (zH (by conv=>lhs;whnf) (by rfl) (zH (by conv=>lhs;whnf) (by rfl) zaV))) (zL (by conv=>lhs;whnf) (by rfl) zaG) (zbM hC rfl) (by repeat (first | exact z6 rfl | refine zaj rfl ?_ | refine zP rfl ?_)) (by repeat (first | exact zax | exact z9 rfl | refine zak rfl ?_ | refine zQ rfl ?_)) ?_
 clear F8
 rintro ⟨fu,g28,g29,g30⟩ ⟨hl31,F9,hn_g28⟩
 dsimp only at hl31 F9 hn_g28 ⊢
 obtain _ | fu:=fu
 · rw [zcn] at F9;cases F9
 rw [zcn] at F9
 refine zb (za ?_)
 refine s_lt ?_
 refine zf (zd (zb ?_))
 refine zm F9 ?_ ?_<;>intro C32 F10
 refine zM 1 (fun B33=>?_)
 refine zi (zd (zb (zl (zb (za ?_)))))
 refine s_mv ?_
 obtain ⟨v34,V34,F11⟩:=zc F10
 refine zK Hit.row V34 (Hit.row_eq _) yE42 ?_
 refine zam yA48 yS48 ?_
 refine zU yZ48 ?_
 refine s_as ?_
 refine zac yS48 ?_
 refine zf (zd (zb (za ?_)))
 refine zU yZ4 ?_
 refine zac yS4 ?_
 refine zf (zd (zb (za ?_)))
 refine zI yA32 yS32 ?_
 refine s_fn ?_
 obtain ⟨v35,V35,F12⟩:=zc F11
 refine zY [(9000,16),(9001,15)] [] _ _ (ziu fu _ _ _ _ V35) ?_
 refine zf (zd (zb ?_))
 refine zbb (α:=Nat × Bool) [86,87,88,89,90,91,92] [] [] (fun a=>[(92,.t (.sc (.bool a.2)))]) (fun a=>[]) (fun a=>a.1≤fu∧zdN a.1 x1 x2 g7 g8 g9 g10 g11 g12 g13 v17 g28 g29 g30 v34 a.2=some r) ?_ ?_
 refine za ?_
 refine zu yA4 ?_
 refine zaY ?_
 refine s_mv ?_
 refine zp _ 88 F12 ?_ ?_<;>intro C36 F13
 iterate 3 refine r_no rfl ?_
 refine zA ?_
 refine zf ?_
 exact s_jn (fu,true) ⟨by first | omega | (dsimp only;omega),F13⟩
 refine s_fa zhU ?_
 refine zu yA3 ?_
 refine s_eq ?_
 refine zz ?_
 refine zf ?_
 exact s_jn (fu,(decide (v34.depth=0))) ⟨by first | omega | (dsimp only;omega),F13⟩
 clear F12
 rintro ⟨fu,g37⟩ ⟨hl38,F13⟩
 dsimp only at hl38 F13 ⊢
 obtain _ | fu:=fu
 · rw [zdN] at F13;cases F13
 rw [zdN] at F13
 refine zm F13 ?_ ?_<;>intro C39 F14
 refine zy (zq (zr (zd (za ?_))))
 refine zJ (zas C32 B33 hn_g28) ?_
 refine s_mv ?_
 refine zf ?_
 exact s_rn (fu,(g28+1),g29,g30) ⟨by first | omega | (dsimp only;omega),F14,by first | omega | (dsimp only;omega)⟩
 refine zi (zd (zb (za ?_)))
 refine s_mv ?_
 refine s_mv ?_
 refine s_bs rI [g28] yP27 yR3 ?_
 obtain ⟨hk40,F15⟩:=zad F14
 refine zek rI (fun _=>rfl) hk40 yP27 ?_
 refine s_as ?_
 refine zf (zd (zb ?_))
 refine zbb (α:=Nat × Bool) [97,98,99,100,101,102,103,104,105] [] [] (fun a=>[(105,.t (.sc (.bool a.2)))]) (fun a=>[]) (fun a=>a.1≤fu∧zdM a.1 x1 x2 g7 g8 g9 g10 g11 g12 g13 v17 g28 g29 v34 a.2=some r) ?_ ?_
 refine za ?_
 refine s_mv ?_
 refine s_ge ?_
 refine s_mv ?_
 refine zp _ 99 F15 ?_ ?_<;>intro C41 F16
 refine s_mv ?_
 refine s_fa ziw ?_
 refine zu yA42 ?_
 refine zC yU42 ?_
 refine s_ne ?_
 refine zA ?_
 refine zf ?_
 exact s_jn (fu,(decide (g30≠(v34.many.length:Int)))) ⟨by first | omega | (dsimp only;omega),F16⟩
 iterate 5 refine r_no rfl ?_
 refine zz ?_
 refine zf ?_
 exact s_jn (fu,false) ⟨by first | omega | (dsimp only;omega),F16⟩
 clear F15
 rintro ⟨fu,g42⟩ ⟨hl43,F16⟩
 dsimp only at hl43 F16 ⊢
 obtain _ | fu:=fu
 · rw [zdM] at F16;cases F16
 rw [zdM] at F16
 refine zm F16 ?_ ?_<;>intro C44 F17
 refine zb (za ?_)
 refine zgD yZ32 yL32 ?_
 refine zac yS32 ?_
 refine s_as ?_
 refine zf (zd (zh (zg (zj (zg (zw (zj (zew (zj (zg (zw (zj (zg (zn ?_))))))))))))))
 cases F17
 exact z4 [] [] (by rw [Tryz.results42];exact (zat (by conv=>lhs;whnf) (by conv=>lhs;whnf) yA32 yS32 rfl (zai (by conv=>lhs;whnf) zaf)))
 refine zi (zd (za ?_))
 refine s_fa ziw ?_
 refine zu yA42 ?_
 refine zC yU42 ?_
 refine s_as ?_
 refine zf (zW (zd (za ?_)))
 refine zJ (zas C32 B33 hn_g28) ?_
 refine s_mv ?_
 refine zf ?_
 exact s_rn (fu,(g28+1),(g29++[g28]),(v34.many.length:Int)) ⟨by first | omega | (dsimp only;omega),F17,by first | omega | (dsimp only;omega)⟩ [(5080,96)]
 refine zy (zq (zo (zr ?_)))
 exact s_jn (fu,g30,g29) ⟨by first | omega | (dsimp only;omega),F10⟩
 clear F8
 rintro ⟨fu,g45,g46⟩ ⟨hl47,F9⟩
 dsimp only at hl47 F9 ⊢
 obtain _ | fu:=fu
 · rw [zfo] at F9;cases F9
 rw [zfo] at F9
 refine zb (za ?_)
 refine s_as ?_
 refine zf (zd (zl ?_))
 refine zeR 7 5020 5140 [.t (.sc (.int .i64 g8)),.t (.sc (.str g9)),.t (.sc (.int .i64 g10)),.t (.sl (g11.map rI)),.ar 5140] ?_
 refine zal [5,17,18,20,111,112,113,114,115,116,117,118,119,120,121,122,123,124,125,126,127,128,129,130,131,132,133,134,135,136,137,138,139,140,141] [7,8,5140] [2117,32139] [5140] (fun a:Nat × Int × Int × ByteArray × Int × (List Int) × (List Form) × Int=>a.1) (fun a:Nat × Int × Int × ByteArray × Int × (List Int) × (List Form) × Int=>[(17,.t (.sc (.int .i64 a.2.1)))]) (fun a:Nat × Int × Int × ByteArray × Int × (List Int) × (List Form) × Int=>[(7,.box [.t (.sc (.int .i64 a.2.2.1)),.t (.sc (.str a.2.2.2.1)),.t (.sc (.int .i64 a.2.2.2.2.1)),.t (.sl (a.2.2.2.2.2.1.map rI)),.ar 5140]),(8,.box [.t (.sc (.int .i64 a.2.2.2.2.2.2.2))]),(5140,.arr (a.2.2.2.2.2.2.1.map Form.row) 32 true)]) (fun a:Nat × Int × Int × ByteArray × Int × (List Int) × (List Form) × Int=>a.1≤fu∧zdL a.1 x1 x2 g7 v17 g45 g46 a.2.1 a.2.2.1 a.2.2.2.1 a.2.2.2.2.1 a.2.2.2.2.2.1 a.2.2.2.2.2.2.1 a.2.2.2.2.2.2.2=some r) (fu,0,g8,g9,g10,g11,g12,g13) ⟨Nat.le_refl _,F9⟩ (by rfl) (by rfl) (fun _=>rfl) (zH (by conv=>lhs;whnf) (by rfl) zaV) (zL (by conv=>lhs;whnf) (by rfl) (zL (by conv=>lhs;whnf) (by rfl) (zL (by conv=>lhs;whnf) (by rfl) zaG))) (zbM hC rfl) (by repeat (first | exact z6 rfl | refine zaj rfl ?_ | refine zP rfl ?_)) (by repeat (first | exact zax | exact z9 rfl | refine zak rfl ?_ | refine zQ rfl ?_)) ?_
 clear F9
 rintro ⟨fu,g48,g49,g50,g51,g52,g53,g54⟩ ⟨hl55,F10⟩
 dsimp only at hl55 F10 ⊢
 obtain _ | fu:=fu
 · rw [zdL] at F10;cases F10
 rw [zdL] at F10
 refine zb (zb (za ?_))
 refine s_mv ?_
 refine s_mv ?_
 refine s_lt ?_
 refine zf (zd ?_)
 refine zm F10 ?_ ?_<;>intro C56 F11
 refine zi (zd (zb (zl (zb (za ?_)))))
 refine s_mv ?_
 obtain ⟨v57,V57,F12⟩:=zc F11
 refine zY [(9200,2117)] [] _ _ (m_slices_Clone_Hit_ok fu _ _ V57) ?_
 refine s_as ?_
 refine zf (zd ?_)
 refine zbb (α:=Nat × (List Hit)) [20,118,119,120,121,122,123,124,125,126,127,128,129,130,131,132,133,134,135] [2117] [] (fun a=>[]) (fun a=>[(2117,.arr (a.2.map Hit.row) 48 true)]) (fun a=>a.1≤fu∧zfn a.1 x1 x2 g7 v17 g45 g46 g48 g49 g50 g51 g52 g53 g54 a.2=some r) ?_ ?_
 refine zb (za ?_)
 refine s_mv ?_
 refine zg8 yU27 ?_
 refine s_mv ?_
 refine zf (zd (zl ?_))
 refine zaK (β:=Int × (List Hit)) [20,120,121,122,123,124,125,126,127,128,129,130,131,132,133,134,135] [2117] [] (fun a=>[(120,.t (.sc (.int .i64 a.2.1)))]) (fun a=>[(2117,.arr (a.2.2.map Hit.row) 48 true)]) (fun a=>a.1≤fu∧zc2 a.1 x1 x2 g7 v17 g45 g46 g48 g49 g50 g51 g52 g53 g54 a.2.1 a.2.2=some r∧0≤a.2.1) (fu,0,v57) ⟨Nat.le_refl _,F12,by simp⟩ ?_
 clear F12
 rintro ⟨fu,g58,g59⟩ ⟨hl60,F13,hn_g58⟩
 dsimp only at hl60 F13 hn_g58 ⊢
 obtain _ | fu:=fu
 · rw [zc2] at F13;cases F13
 rw [zc2] at F13
 refine zb (za ?_)
 refine s_lt ?_
 refine zf (zd (zb ?_))
 refine zm F13 ?_ ?_<;>intro C61 F14
 refine ziq 12 5080 (fun B62=>?_)
 refine zi (zd (zb (zl (zb (za ?_)))))
 obtain ⟨v63,V63,F15⟩:=zc F14
 refine zis rI V63 yE27 ?_
 refine s_lA1 rI V63 rfl yA3 ?_
 refine s_as ?_
 refine zf (zd (za ?_))
 iterate 4 refine s_mv ?_
 obtain ⟨v64,V64,F16⟩:=zc F15
 refine zK Hit.row V64 (Hit.row_eq _) yE42 ?_
 refine s_fa ziw ?_
 refine zu yA42 ?_
 refine s_mv ?_
 obtain ⟨v65,V65,F17⟩:=zc F16
 refine zK Hit.row V65 (Hit.row_eq _) yE42 ?_
 refine zam yA48 yS48 ?_
 obtain ⟨v66,V66,F18⟩:=zc F17
 refine zis Hit.row V66 yE42 ?_
 refine s_stA Hit.row v65 V66 (Hit.row_eq _) (Hit.row_eq _) yS48 yS48 ?_
 refine zf (zW (zd (za ?_)))
 refine zJ (zas C61 B62 hn_g58) ?_
 refine s_mv ?_
 refine zf ?_
 exact s_rn (fu,(g58+1),(g59.set v63.toNat v65)) ⟨by first | omega | (dsimp only;omega),F18,by first | omega | (dsimp only;omega)⟩
 refine zy (zq (zo (zr ?_)))
 exact s_jn (fu,g59) ⟨by first | omega | (dsimp only;omega),F14⟩
 clear F12
 rintro ⟨fu,g67⟩ ⟨hl68,F13⟩
 dsimp only at hl68 F13 ⊢
 obtain _ | fu:=fu
 · rw [zfn] at F13;cases F13
 rw [zfn] at F13
 refine zb (za ?_)
 refine s_mv ?_
 refine zI yA32 yS32 ?_
 refine s_mv ?_
 obtain ⟨v69,V69,F14⟩:=zc F13
 refine zY [(9000,8),(9001,7),(9444,5140),(10444,32139)] [2117] _ _ (ih_m_impl_fill_1 fu (by omega) _ _ _ _ _ V69) ?_
 refine zaY ?_
 refine zf (zd ?_)
 refine zm F14 ?_ ?_<;>intro C70 F15
 refine zb (za ?_)
 refine zgD yZ32 yL32 ?_
 refine zac yS32 ?_
 refine s_as ?_
 refine zf (zd (zh (zj (zg (zw (zj (zj (zg (zw (zj (zg (zn ?_))))))))))))
 cases F15
 exact z4 [] [] (by rw [Tryz.results42];exact (zat (by conv=>lhs;whnf) (by conv=>lhs;whnf) yA32 yS32 rfl (zai (by conv=>lhs;whnf) zaf)))
 refine zi (zW (zd (za ?_)))
 refine s_mv ?_
 refine zJ rfl ?_
 refine s_as ?_
 refine zf ?_
 exact s_rn (fu,(w64 (g48+1)),v69.2.2.kind,v69.2.2.name,v69.2.2.n,v69.2.2.scopes,v69.2.2.kids,v69.2.1) ⟨by first | omega | (dsimp only;omega),F15⟩ [(5140,32139)]
 refine zy (zq (zo (zr (zW (zd (za ?_))))))
 refine zJ rfl ?_
 refine s_mv ?_
 refine zf ?_
 exact s_rn (fu,(w64 (g7+1)),g49,g50,g51,g52,g53,g54) ⟨by first | omega | (dsimp only;omega),F11⟩ [(5020,5140)]
 refine zy (zq (zo (zr (zd (zb (za ?_))))))
 refine zI yA32 yS32 ?_
 refine zac yS32 ?_
 refine s_as ?_
 refine zf (zd (zh (zn ?_)))
 cases F3
 exact z4 [] [5020] (by rw [Tryz.results42];exact (zat (by conv=>lhs;whnf) (by conv=>lhs;whnf) yA32 yS32 rfl (zai (by conv=>lhs;whnf) zaf)))
theorem m_impl_fill_1_st (fu:Nat) (ih_m_impl_fill:∀ k,k≤fu→zgm k) (ih_m_impl_fill_1:∀ k,k≤fu→zgA k):zgA (fu+1):=by
 intro x1 x2 o1 o2 r F0
 rw [zeh] at F0
 refine AC_i [.t (.sc (.bool r.1))] Tryz.func89 rfl Tryz.ntmps89 ?_
 intro C hC
 refine zb (za ?_)
 refine zaL ?_
 refine s_as ?_
 refine zf (zd (zb (za ?_)))
 refine zI yA32 yS32 ?_
 refine s_mv ?_
 obtain ⟨v1,V1,F1⟩:=zc F0
 refine zv [] (ih_m_impl_fill fu (by omega) _ _ _ V1) ?_
 refine s_mv ?_
 refine zbf ?_
 refine zbf ?_
 refine zU yZ32 ?_
 refine zac yS32 ?_
 refine s_as ?_
 refine zf (zd (zb (zb (za ?_))))
 refine s_mv ?_
 refine zaY ?_
 refine zf (zd ?_)
 refine zm F1 ?_ ?_<;>intro C2 F2
 refine zb (za ?_)
 refine s_as ?_
 refine zf (zd ?_)
 refine zeR 9001 9444 10444 [.t (.sc (.int .i64 o2.kind)),.t (.sc (.str o2.name)),.t (.sc (.int .i64 o2.n)),.t (.sl (o2.scopes.map rI)),.ar 10444] ?_
 refine zh (zg (zn ?_))
 cases F2
 exact zk _ [] Tryz.results89
 refine zi (zd (zb ?_))
 refine zO yMix (by kernel_rfl) ?_
 refine zu yA3 ?_
 refine zI yA32 yS32 ?_
 obtain ⟨v3,V3,F3⟩:=zc F2
 refine zv [] (m_impl_FormSize_ok fu _ _ V3) ?_
 refine zJ rfl ?_
 refine zac yS3 ?_
 refine zae (by kernel_rfl) ?_
 refine zd (zb ?_)
 refine zO yMix (by kernel_rfl) ?_
 refine s_fa zF ?_
 refine zu yA24 ?_
 refine zI yA32 yS32 ?_
 refine zg8 yU24 ?_
 refine s_bs Form.row [(Form.mk 0 (⟨#[]⟩:ByteArray) 0 ([]:List Int) ([]:List Form))] yP24 yR32 ?_
 obtain ⟨hk4,F4⟩:=zad F3
 refine zek Form.row (fun y=>Form.row_len y) hk4 yP24 ?_
 obtain ⟨v5,V5,F5⟩:=zc F4
 refine zis Form.row V5 yE24 ?_
 refine s_stA Form.row v1.1 V5 (Form.row_eq _) (Form.row_eq _) yS32 yS32 ?_
 refine s_fa zF ?_
 refine zia yS24 ?_
 refine zae (by kernel_rfl) ?_
 refine zd (zb (za ?_))
 refine zu yA3 ?_
 refine s_le ?_
 refine s_as ?_
 refine zf (zd ?_)
 refine zeR 9001 26 10444 [.t (.sc (.int .i64 o2.kind)),.t (.sc (.str o2.name)),.t (.sc (.int .i64 o2.n)),.t (.sl (o2.scopes.map rI)),.ar 10444] ?_
 refine zh (zn ?_)
 cases F5
 exact zk _ [] Tryz.results89
theorem m_impl_fill_all (fuel:Nat):zgm fuel∧zgA fuel:=by
 induction fuel using Nat.strongRecOn with
 | _ N ih =>
   cases N with
   | zero=>exact ⟨(by intro x1 x2 r h;rw [zer] at h;cases h),(by intro x1 x2 o1 o2 r h;rw [zeh] at h;cases h)⟩
   | succ fu=>exact ⟨m_impl_fill_st fu (fun k hk=>(ih k (by omega)).1) (fun k hk=>(ih k (by omega)).2),m_impl_fill_1_st fu (fun k hk=>(ih k (by omega)).1) (fun k hk=>(ih k (by omega)).2)⟩
theorem m_impl_fill_ok (fuel:Nat):zgm fuel:=(m_impl_fill_all fuel).1
def m_impl_formOr_AC (fuel:Nat):Prop:=∀ (x1:Form) (r:(Form × Bool)),zhQ fuel x1=some r→AC Tryz.prog 43 [.ag [.t (.sc (.int .i64 x1.kind)),.t (.sc (.str x1.name)),.t (.sc (.int .i64 x1.n)),.t (.sl (x1.scopes.map rI)),.t (.sl (x1.kids.map Form.row))]] noOb (.tp [.ag [.t (.sc (.int .i64 r.1.kind)),.t (.sc (.str r.1.name)),.t (.sc (.int .i64 r.1.n)),.t (.sl (r.1.scopes.map rI)),.t (.sl (r.1.kids.map Form.row))],.t (.sc (.bool r.2))]) noOb
theorem m_impl_formOr_ok (fuel:Nat):m_impl_formOr_AC fuel:=by
 intro x1 r F0
 unfold zhQ at F0
 refine AC_i [.ag [.t (.sc (.int .i64 r.1.kind)),.t (.sc (.str r.1.name)),.t (.sc (.int .i64 r.1.n)),.t (.sl (r.1.scopes.map rI)),.t (.sl (r.1.kids.map Form.row))],.t (.sc (.bool r.2))] Tryz.func43 rfl Tryz.ntmps43 ?_
 intro C hC
 refine zb (za ?_)
 refine zaL ?_
 refine zU yZ32 ?_
 refine s_as ?_
 refine zf (zd (zb (zb (za ?_))))
 refine zI yA32 yS32 ?_
 obtain ⟨v1,V1,F1⟩:=zc F0
 refine zv [] (zcV fuel _ _ V1) ?_
 refine zaY ?_
 refine zf (zd ?_)
 refine zm F1 ?_ ?_<;>intro C2 F2
 refine zb (za ?_)
 refine zgD yZ32 yL32 ?_
 refine zac yS32 ?_
 refine s_as ?_
 refine zf (zd (zh (zg (zn ?_))))
 cases F2
 exact z4 [] [] (by rw [Tryz.results43];exact (zat (by conv=>lhs;whnf) (by conv=>lhs;whnf) yA32 yS32 rfl (zai (by conv=>lhs;whnf) zaf)))
 refine zi (zd (zb (za ?_)))
 refine zI yA32 yS32 ?_
 obtain ⟨v3,V3,F3⟩:=zc F2
 refine zv [] (zdk fuel _ _ V3) ?_
 refine zac yS32 ?_
 refine s_as ?_
 refine zf (zd (zh (zn ?_)))
 cases F3
 exact z4 [] [] (by rw [Tryz.results43];exact (zat (by conv=>lhs;whnf) (by conv=>lhs;whnf) yA32 yS32 rfl (zai (by conv=>lhs;whnf) zaf)))
def m_impl_FillTemplate_AC (fuel:Nat):Prop:=∀ (x1:Form) (x2:(List Hit)) (r:(Form × Bool)),zdY fuel x1 x2=some r→AC Tryz.prog 17 [.ag [.t (.sc (.int .i64 x1.kind)),.t (.sc (.str x1.name)),.t (.sc (.int .i64 x1.n)),.t (.sl (x1.scopes.map rI)),.t (.sl (x1.kids.map Form.row))],.t (.sl (x2.map Hit.row))] noOb (.tp [.ag [.t (.sc (.int .i64 r.1.kind)),.t (.sc (.str r.1.name)),.t (.sc (.int .i64 r.1.n)),.t (.sl (r.1.scopes.map rI)),.t (.sl (r.1.kids.map Form.row))],.t (.sc (.bool r.2))]) noOb
theorem m_impl_FillTemplate_ok (fuel:Nat):m_impl_FillTemplate_AC fuel:=by
 intro x1 x2 r F0
 unfold zdY at F0
 refine AC_i [.ag [.t (.sc (.int .i64 r.1.kind)),.t (.sc (.str r.1.name)),.t (.sc (.int .i64 r.1.n)),.t (.sl (r.1.scopes.map rI)),.t (.sl (r.1.kids.map Form.row))],.t (.sc (.bool r.2))] Tryz.func17 rfl Tryz.ntmps17 ?_
 intro C hC
 refine zb (za ?_)
 refine zaL ?_
 refine zU yZ32 ?_
 refine s_as ?_
 refine zf (zd (zb (zb (za ?_))))
 refine zI yA32 yS32 ?_
 refine s_mv ?_
 obtain ⟨v1,V1,F1⟩:=zc F0
 refine zv [] (zi8 fuel _ _ _ V1) ?_
 refine zaY ?_
 refine zf (zd ?_)
 refine zm F1 ?_ ?_<;>intro C2 F2
 refine zb (za ?_)
 refine zgD yZ32 yL32 ?_
 refine zac yS32 ?_
 refine s_as ?_
 refine zf (zd (zh (zg (zn ?_))))
 cases F2
 exact z4 [] [] (by rw [Tryz.results17];exact (zat (by conv=>lhs;whnf) (by conv=>lhs;whnf) yA32 yS32 rfl (zai (by conv=>lhs;whnf) zaf)))
 refine zi (zd (zb (za ?_)))
 refine zI yA32 yS32 ?_
 refine s_mv ?_
 obtain ⟨v3,V3,F3⟩:=zc F2
 refine zv [] (m_impl_fill_ok fuel _ _ _ V3) ?_
 refine s_mv ?_
 refine zbf ?_
 refine zbf ?_
 refine zU yZ32 ?_
 refine zac yS32 ?_
 refine s_as ?_
 refine zf (zd (zb (zb (za ?_))))
 refine s_mv ?_
 refine zaY ?_
 refine zf (zd ?_)
 refine zm F3 ?_ ?_<;>intro C4 F4
 refine zb (za ?_)
 refine zgD yZ32 yL32 ?_
 refine zac yS32 ?_
 refine s_as ?_
 refine zf (zd (zh (zg (zn ?_))))
 cases F4
 exact z4 [] [] (by rw [Tryz.results17];exact (zat (by conv=>lhs;whnf) (by conv=>lhs;whnf) yA32 yS32 rfl (zai (by conv=>lhs;whnf) zaf)))
 refine zi (zd (zb (za ?_)))
 refine zI yA32 yS32 ?_
 obtain ⟨v5,V5,F5⟩:=zc F4
 refine zv [] (m_impl_formOr_ok fuel _ _ V5) ?_
 refine zbf ?_
 refine zbf ?_
 refine zac yS32 ?_
 refine s_as ?_
 refine zf (zd (zh (zn ?_)))
 cases F5
 exact z4 [] [] (by rw [Tryz.results17];exact (zat (by conv=>lhs;whnf) (by conv=>lhs;whnf) yA32 yS32 rfl (zai (by conv=>lhs;whnf) zaf)))
end Go.Abs
