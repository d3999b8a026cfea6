/- A part of the proof: what the functions that the law calls answer, as pure values. -/
import Derived.Test.YtilpcjgklfjdgaaGreatKbeececb3b691
import Derived.Test.YtilpcjgklfjdgaaGreatKdfd114e1f3bb
import Derived.Test.YtilpcjgklfjdgaaGreatK25b6b0d87810
import Derived.Test.YtilpcjgklfjdgaaGreatK6646ba393ca5
set_option linter.unusedSimpArgs false
set_option linter.unusedVariables false
set_option maxRecDepth 100000
set_option maxHeartbeats 4000000
namespace Go.Abs
open Go.Proofs
def zgw (fuel:Nat):Prop:=∀ (x1:ByteArray) (x2:Int) (x3:Int) (r:(Form × Int)),zgW fuel x1 x2 x3=some r→AC Tryz.prog 152 [.t (.sc (.str x1)),.t (.sc (.int .i64 x2)),.t (.sc (.int .i64 x3))] noOb (.tp [.ag [.t (.sc (.int .i64 r.1.kind)),.t (.sc (.str r.1.name)),.t (.sc (.int .i64 r.1.n)),.t (.sl (r.1.scopes.map rI)),.t (.sl (r.1.kids.map Form.row))],.t (.sc (.int .i64 r.2))]) noOb
theorem m_spec_l1Read_st (fu:Nat) (ih_m_spec_l1Read:∀ k,k≤fu→zgw k):zgw (fu+1):=by
 intro x1 x2 x3 r F0
 rw [zgW] at F0
 refine AC_i [.ag [.t (.sc (.int .i64 r.1.kind)),.t (.sc (.str r.1.name)),.t (.sc (.int .i64 r.1.n)),.t (.sl (r.1.scopes.map rI)),.t (.sl (r.1.kids.map Form.row))],.t (.sc (.int .i64 r.2))] Tryz.func152 rfl Tryz.ntmps152 ?_
 intro C hC
 refine zb (za ?_)
 refine zU yZ32 ?_
 refine s_as ?_
 refine zf (zd (zb (za ?_)))
 refine s_mv ?_
 refine s_mv ?_
 obtain ⟨v1,V1,F1⟩:=zc F0
 refine zv [] (zgu fu _ _ _ V1) ?_
 refine s_as ?_
 refine zf (zd (zb ?_))
 refine zbb (α:=Nat × Bool) [14,15,16,17,18,19,20,21] [] [] (fun a=>[(21,.t (.sc (.bool a.2)))]) (fun a=>[]) (fun a=>a.1≤fu∧ze3 a.1 x1 x3 v1 a.2=some r) ?_ ?_
 refine za ?_
 refine s_mv ?_
 refine s_mv ?_
 refine zfD yU9 ?_
 refine s_ge ?_
 refine s_mv ?_
 refine zp _ 18 F1 ?_ ?_<;>intro C2 F2
 refine r_no rfl (r_no rfl ?_)
 refine zA ?_
 refine zf ?_
 exact s_jn (fu,true) ⟨by first | omega | (dsimp only;omega),F2⟩
 refine s_mv ?_
 refine s_eq ?_
 refine zz ?_
 refine zf ?_
 exact s_jn (fu,(decide (x3=0))) ⟨by first | omega | (dsimp only;omega),F2⟩
 clear F1
 rintro ⟨fu,g3⟩ ⟨hl4,F2⟩
 dsimp only at hl4 F2 ⊢
 obtain _ | fu:=fu
 · rw [ze3] at F2;cases F2
 rw [ze3] at F2
 refine zm F2 ?_ ?_<;>intro C5 F3
 refine zb (za ?_)
 refine zgD yZ32 yL32 ?_
 refine zac yS32 ?_
 refine s_as ?_
 refine zf (zd (zh (zg (zn ?_))))
 cases F3
 exact z4 [] [] (by rw [Tryz.results152];exact (zat (by conv=>lhs;whnf) (by conv=>lhs;whnf) yA32 yS32 rfl (zai (by conv=>lhs;whnf) zaf)))
 refine zi (zd (zb (zb (za ?_))))
 refine s_mv ?_
 refine s_mv ?_
 obtain ⟨v6,V6,F4⟩:=zc F3
 refine s_ixS V6 yU9 ?_
 refine s_ne ?_
 refine zf (zd ?_)
 refine zm F4 ?_ ?_<;>intro C7 F5
 refine zb (za ?_)
 refine s_mv ?_
 refine s_mv ?_
 obtain ⟨v8,V8,F6⟩:=zc F5
 refine zv [] (m_spec_l1Atom_ok fu _ _ _ V8) ?_
 refine zbf ?_
 refine zbf ?_
 refine zac yS32 ?_
 refine s_as ?_
 refine zf (zd (zh (zg (zn ?_))))
 cases F6
 exact z4 [] [] (by rw [Tryz.results152];exact (zat (by conv=>lhs;whnf) (by conv=>lhs;whnf) yA32 yS32 rfl (zai (by conv=>lhs;whnf) zaf)))
 refine zi (zd (zb (za ?_)))
 refine zgD yZ32 yL32 ?_
 refine zU yZ32 ?_
 refine zac yS32 ?_
 refine zf (zd (zb (za ?_)))
 refine s_mv ?_
 refine s_mv ?_
 refine zJ rfl ?_
 obtain ⟨v9,V9,F6⟩:=zc F5
 refine zv [] (zgu fu _ _ _ V9) ?_
 refine s_as ?_
 refine zf (zd ?_)
 refine zbb (α:=Nat × Int × (List Form)) [1,7,9,10,37,38,39,40,41,42,43,44,45,46,47,48,49,50,51,52,53,54,55,56,57,58,59,60,61,62,63,64,65,66,67,68,69,70,71,72] [8,5060] [] (fun a=>[(1,.t (.sc (.int .i64 a.2.1)))]) (fun a=>[(8,.box [.t (.sc (.int .i64 3)),.t (.sc (.str (⟨#[]⟩:ByteArray))),.t (.sc (.int .i64 0)),.nl,.ar 5060]),(5060,.arr (a.2.2.map Form.row) 32 true)]) (fun a=>a.1≤fu∧zgv a.1 x1 a.2.1 a.2.2=some r) ?_ ?_
 refine zl ?_
 refine awp_ownB 8 5060 32 [.t (.sc (.int .i64 3)),.t (.sc (.str (⟨#[]⟩:ByteArray))),.t (.sc (.int .i64 0)),.nl,.ar 5060] yI32.choose_spec ?_
 refine zal [1,7,9,10,37,38,39,40,41,42,43,44,45,46,47,48,49,50,51,52,53,54,55,56,57,58,59,60,61,62,63,64,65,66,67,68,69,70,71,72] [8,5060] [9,67,68] [5060] (fun a:Nat × Int × (List Form)=>a.1) (fun a:Nat × Int × (List Form)=>[(1,.t (.sc (.int .i64 a.2.1)))]) (fun a:Nat × Int × (List Form)=>[(8,.box [.t (.sc (.int .i64 3)),.t (.sc (.str (⟨#[]⟩:ByteArray))),.t (.sc (.int .i64 0)),.nl,.ar 5060]),(5060,.arr (a.2.2.map Form.row) 32 true)]) (fun a:Nat × Int × (List Form)=>a.1≤fu∧ze1 a.1 x1 x3 a.2.1 a.2.2=some r) (fu,v9,([]:List Form)) ⟨Nat.le_refl _,F6⟩ (by rfl) (by rfl) (fun _=>rfl) (zH (by conv=>lhs;whnf) (by rfl) zaV) (zL (by conv=>lhs;whnf) (by rfl) (zL (by conv=>lhs;whnf) (by rfl) zaG)) (zbM hC rfl) (by repeat (first | exact z6 rfl | refine zaj rfl ?_ | refine zP rfl ?_)) (by repeat (first | exact zax | exact z9 rfl | refine zak rfl ?_ | refine zQ rfl ?_)) ?_
 clear F6
 rintro ⟨fu,g10,g11⟩ ⟨hl12,F7⟩
 dsimp only at hl12 F7 ⊢
 obtain _ | fu:=fu
 · rw [ze1] at F7;cases F7
 rw [ze1] at F7
 refine zb ?_
 refine zbb (α:=Nat × Bool) [37,38,39,40,41,42,43,44,45,46,47,48,49,50,51,52] [] [] (fun a=>[(52,.t (.sc (.bool a.2)))]) (fun a=>[]) (fun a=>a.1≤fu∧zd6 a.1 x1 x3 g10 g11 a.2=some r) ?_ ?_
 refine za ?_
 refine s_mv ?_
 refine s_mv ?_
 refine zfD yU9 ?_
 refine s_lt ?_
 refine s_mv ?_
 refine zp _ 41 F7 ?_ ?_<;>intro C13 F8
 refine s_mv ?_
 refine s_mv ?_
 obtain ⟨v14,V14,F9⟩:=zc F8
 refine s_ixS V14 yU9 ?_
 refine s_ne ?_
 refine zA ?_
 refine s_mv ?_
 refine zp _ 47 F9 ?_ ?_<;>intro C15 F10
 refine s_fa zF ?_
 refine zu yA24 ?_
 refine zg8 yU24 ?_
 refine s_lt ?_
 refine zA ?_
 refine zf ?_
 exact s_jn (fu,(decide ((g11.length:Int) < 400))) ⟨by first | omega | (dsimp only;omega),F10⟩
 iterate 4 refine r_no rfl ?_
 refine zz ?_
 refine zf ?_
 exact s_jn (fu,false) ⟨by first | omega | (dsimp only;omega),F10⟩
 iterate 4 refine r_no rfl ?_
 refine zz ?_
 refine s_mv ?_
 iterate 4 refine r_no rfl ?_
 refine zz ?_
 refine zf ?_
 exact s_jn (fu,false) ⟨by first | omega | (dsimp only;omega),F8⟩
 clear F7
 rintro ⟨fu,g16⟩ ⟨hl17,F8⟩
 dsimp only at hl17 F8 ⊢
 obtain _ | fu:=fu
 · rw [zd6] at F8;cases F8
 rw [zd6] at F8
 refine zm F8 ?_ ?_<;>intro C18 F9
 refine zi (zd (zl (zb (za ?_))))
 iterate 3 refine s_mv ?_
 refine zh9 rfl ?_
 obtain ⟨v19,V19,F10⟩:=zc F9
 refine zv [] (ih_m_spec_l1Read fu (by omega) _ _ _ _ V19) ?_
 refine s_mv ?_
 refine zbf ?_
 refine zbf ?_
 refine zU yZ32 ?_
 refine zac yS32 ?_
 refine s_as ?_
 refine zf (zd (zb (zb (za ?_))))
 refine s_mv ?_
 refine s_lt ?_
 refine zf (zd ?_)
 refine zm F10 ?_ ?_<;>intro C20 F11
 refine zb (za ?_)
 refine zI yA32 yS32 ?_
 refine zac yS32 ?_
 refine s_as ?_
 refine zf (zd (zh (zg (zj (zw (zj (zew (zn ?_))))))))
 cases F11
 exact z4 [] [5060] (by rw [Tryz.results152];exact (zat (by conv=>lhs;whnf) (by conv=>lhs;whnf) yA32 yS32 rfl (zai (by conv=>lhs;whnf) zaf)))
 refine zi (zd (zb (za ?_)))
 refine s_fa zF ?_
 refine zu yA24 ?_
 refine zI yA32 yS32 ?_
 refine s_bs Form.row [v19.1] yP24 yR32 ?_
 obtain ⟨hk21,F12⟩:=zad F11
 refine zek Form.row (fun y=>Form.row_len y) hk21 yP24 ?_
 refine s_fa zF ?_
 refine zia yS24 ?_
 refine zf (zd (za ?_))
 refine s_mv ?_
 refine s_mv ?_
 obtain ⟨v22,V22,F13⟩:=zc F12
 refine zv [] (zgu fu _ _ _ V22) ?_
 refine s_as ?_
 refine zf (zW ?_)
 exact s_rn (fu,v22,(g11++[v19.1])) ⟨by first | omega | (dsimp only;omega),F13⟩ [(5060,68)]
 refine zy (zq (zo (zr ?_)))
 exact s_jn (fu,g10,g11) ⟨by first | omega | (dsimp only;omega),F9⟩
 clear F6
 rintro ⟨fu,g23,g24⟩ ⟨hl25,F7⟩
 dsimp only at hl25 F7 ⊢
 obtain _ | fu:=fu
 · rw [zgv] at F7;cases F7
 rw [zgv] at F7
 refine zb ?_
 refine zbb (α:=Nat × Bool) [73,74,75,76,77,78,79,80,81,82] [] [] (fun a=>[(82,.t (.sc (.bool a.2)))]) (fun a=>[]) (fun a=>a.1≤fu∧ze2 a.1 g23 g24 a.2=some r) ?_ ?_
 refine za ?_
 refine s_mv ?_
 refine s_mv ?_
 refine zfD yU9 ?_
 refine s_ge ?_
 refine s_mv ?_
 refine zp _ 77 F7 ?_ ?_<;>intro C26 F8
 iterate 4 refine r_no rfl ?_
 refine zA ?_
 refine zf ?_
 exact s_jn (fu,true) ⟨by first | omega | (dsimp only;omega),F8⟩
 refine s_mv ?_
 refine s_mv ?_
 obtain ⟨v27,V27,F9⟩:=zc F8
 refine s_ixS V27 yU9 ?_
 refine s_ne ?_
 refine zz ?_
 refine zf ?_
 exact s_jn (fu,(decide (v27≠41))) ⟨by first | omega | (dsimp only;omega),F9⟩
 clear F7
 rintro ⟨fu,g28⟩ ⟨hl29,F8⟩
 dsimp only at hl29 F8 ⊢
 obtain _ | fu:=fu
 · rw [ze2] at F8;cases F8
 rw [ze2] at F8
 refine zm F8 ?_ ?_<;>intro C30 F9
 refine zb (za ?_)
 refine zI yA32 yS32 ?_
 refine zac yS32 ?_
 refine s_as ?_
 refine zf (zd (zh (zg (zn ?_))))
 cases F9
 exact z4 [] [5060] (by rw [Tryz.results152];exact (zat (by conv=>lhs;whnf) (by conv=>lhs;whnf) yA32 yS32 rfl (zai (by conv=>lhs;whnf) zaf)))
 refine zi (zd (zb (za ?_)))
 refine zI yA32 yS32 ?_
 refine s_mv ?_
 refine zJ rfl ?_
 refine zac yS32 ?_
 refine s_as ?_
 refine zf (zd (zh (zn ?_)))
 cases F9
 exact z4 [] [5060] (by rw [Tryz.results152];exact (zat (by conv=>lhs;whnf) (by conv=>lhs;whnf) yA32 yS32 rfl (zai (by conv=>lhs;whnf) zaf)))
theorem m_spec_l1Read_all (fuel:Nat):zgw fuel:=by
 induction fuel using Nat.strongRecOn with
 | _ N ih =>
   cases N with
   | zero=>exact (by intro x1 x2 x3 r h;rw [zgW] at h;cases h)
   | succ fu=>exact m_spec_l1Read_st fu (fun k hk=>(ih k (by omega)))
theorem m_spec_l1Read_ok (fuel:Nat):zgw fuel:=(m_spec_l1Read_all fuel)
def m_spec_l1Letter_AC (fuel:Nat):Prop:=∀ (x1:Int) (x2:Bool) (r:Bool),zfG fuel x1 x2=some r→AC Tryz.prog 161 [.t (.sc (.int .u8 x1)),.t (.sc (.bool x2))] noOb (.t (.sc (.bool r))) noOb
theorem m_spec_l1Letter_ok (fuel:Nat):m_spec_l1Letter_AC fuel:=by
 intro x1 x2 r F0
 unfold zfG at F0
 refine AC_i [.t (.sc (.bool r))] Tryz.func161 rfl Tryz.ntmps161 ?_
 intro C hC
 refine zb (za ?_)
 refine s_as ?_
 refine zf (zd (zb (zb (za ?_))))
 refine s_mv ?_
 refine s_ge ?_
 refine s_mv ?_
 refine zp _ 7 F0 ?_ ?_<;>intro C1 F1
 refine s_mv ?_
 refine s_le ?_
 refine zA ?_
 refine s_mv ?_
 refine zp _ 11 F1 ?_ ?_<;>intro C2 F2
 refine r_no rfl (r_no rfl ?_)
 refine zA ?_
 refine s_mv ?_
 refine r_no rfl (r_no rfl ?_)
 refine zA ?_
 refine s_mv ?_
 refine r_no rfl (r_no rfl ?_)
 refine zA ?_
 refine s_mv ?_
 refine r_no rfl (r_no rfl ?_)
 refine zA ?_
 refine s_mv ?_
 refine r_no rfl (r_no rfl ?_)
 refine zA ?_
 refine zf (zd (zT rfl (zb (za ?_))))
 refine s_as ?_
 refine zf (zd (zh (zg (zn ?_))))
 cases F2
 exact zk [] [] Tryz.results161
 refine s_mv ?_
 refine s_eq ?_
 refine zz ?_
 refine s_mv ?_
 refine zp _ 15 F2 ?_ ?_<;>intro C3 F3
 refine r_no rfl (r_no rfl ?_)
 refine zA ?_
 refine s_mv ?_
 refine r_no rfl (r_no rfl ?_)
 refine zA ?_
 refine s_mv ?_
 refine r_no rfl (r_no rfl ?_)
 refine zA ?_
 refine s_mv ?_
 refine r_no rfl (r_no rfl ?_)
 refine zA ?_
 refine zf (zd (zT rfl (zb (za ?_))))
 refine s_as ?_
 refine zf (zd (zh (zg (zn ?_))))
 cases F3
 exact zk [] [] Tryz.results161
 refine s_mv ?_
 refine s_eq ?_
 refine zz ?_
 refine s_mv ?_
 refine zp _ 19 F3 ?_ ?_<;>intro C4 F4
 refine r_no rfl (r_no rfl ?_)
 refine zA ?_
 refine s_mv ?_
 refine r_no rfl (r_no rfl ?_)
 refine zA ?_
 refine s_mv ?_
 refine r_no rfl (r_no rfl ?_)
 refine zA ?_
 refine zf (zd (zT rfl (zb (za ?_))))
 refine s_as ?_
 refine zf (zd (zh (zg (zn ?_))))
 cases F4
 exact zk [] [] Tryz.results161
 refine s_mv ?_
 refine s_eq ?_
 refine zz ?_
 refine s_mv ?_
 refine zp _ 23 F4 ?_ ?_<;>intro C5 F5
 refine r_no rfl (r_no rfl ?_)
 refine zA ?_
 refine s_mv ?_
 refine r_no rfl (r_no rfl ?_)
 refine zA ?_
 refine zf (zd (zT rfl (zb (za ?_))))
 refine s_as ?_
 refine zf (zd (zh (zg (zn ?_))))
 cases F5
 exact zk [] [] Tryz.results161
 refine s_mv ?_
 refine s_eq ?_
 refine zz ?_
 refine s_mv ?_
 refine zp _ 27 F5 ?_ ?_<;>intro C6 F6
 refine r_no rfl (r_no rfl ?_)
 refine zA ?_
 refine zf (zd (zT rfl (zb (za ?_))))
 refine s_as ?_
 refine zf (zd (zh (zg (zn ?_))))
 cases F6
 exact zk [] [] Tryz.results161
 refine s_mv ?_
 refine s_eq ?_
 refine zz ?_
 refine zf (zd ?_)
 refine zm F6 ?_ ?_<;>intro C7 F7
 refine zb (za ?_)
 refine s_as ?_
 refine zf (zd (zh (zg (zn ?_))))
 cases F7
 exact zk [] [] Tryz.results161
 refine zi (zd (zb (za ?_)))
 refine s_mv ?_
 refine zaY ?_
 refine s_mv ?_
 refine zp _ 33 F7 ?_ ?_<;>intro C8 F8
 refine s_mv ?_
 refine s_ge ?_
 refine s_mv ?_
 refine zp _ 36 F8 ?_ ?_<;>intro C9 F9
 refine s_mv ?_
 refine s_le ?_
 refine zA ?_
 refine s_mv ?_
 refine zp _ 40 F9 ?_ ?_<;>intro C10 F10
 refine r_no rfl (r_no rfl ?_)
 refine zA ?_
 refine zA ?_
 refine s_as ?_
 refine zf (zd (zh (zn ?_)))
 cases F10
 exact zk [] [] Tryz.results161
 refine s_mv ?_
 refine s_eq ?_
 refine zz ?_
 refine zA ?_
 refine s_as ?_
 refine zf (zd (zh (zn ?_)))
 cases F10
 exact zk [] [] Tryz.results161
 refine r_no rfl (r_no rfl ?_)
 refine zz ?_
 refine s_mv ?_
 refine s_mv ?_
 refine s_eq ?_
 refine zz ?_
 refine zA ?_
 refine s_as ?_
 refine zf (zd (zh (zn ?_)))
 cases F9
 exact zk [] [] Tryz.results161
 iterate 10 refine r_no rfl ?_
 refine zz ?_
 refine s_as ?_
 refine zf (zd (zh (zn ?_)))
 cases F8
 exact zk [] [] Tryz.results161
 refine r_no rfl (r_no rfl ?_)
 refine zz ?_
 refine s_mv ?_
 refine s_mv ?_
 refine s_eq ?_
 refine zz ?_
 refine s_mv ?_
 refine zp _ 15 F1 ?_ ?_<;>intro C11 F2
 refine r_no rfl (r_no rfl ?_)
 refine zA ?_
 refine s_mv ?_
 refine r_no rfl (r_no rfl ?_)
 refine zA ?_
 refine s_mv ?_
 refine r_no rfl (r_no rfl ?_)
 refine zA ?_
 refine s_mv ?_
 refine r_no rfl (r_no rfl ?_)
 refine zA ?_
 refine zf (zd (zT rfl (zb (za ?_))))
 refine s_as ?_
 refine zf (zd (zh (zg (zn ?_))))
 cases F2
 exact zk [] [] Tryz.results161
 refine s_mv ?_
 refine s_eq ?_
 refine zz ?_
 refine s_mv ?_
 refine zp _ 19 F2 ?_ ?_<;>intro C12 F3
 refine r_no rfl (r_no rfl ?_)
 refine zA ?_
 refine s_mv ?_
 refine r_no rfl (r_no rfl ?_)
 refine zA ?_
 refine s_mv ?_
 refine r_no rfl (r_no rfl ?_)
 refine zA ?_
 refine zf (zd (zT rfl (zb (za ?_))))
 refine s_as ?_
 refine zf (zd (zh (zg (zn ?_))))
 cases F3
 exact zk [] [] Tryz.results161
 refine s_mv ?_
 refine s_eq ?_
 refine zz ?_
 refine s_mv ?_
 refine zp _ 23 F3 ?_ ?_<;>intro C13 F4
 refine r_no rfl (r_no rfl ?_)
 refine zA ?_
 refine s_mv ?_
 refine r_no rfl (r_no rfl ?_)
 refine zA ?_
 refine zf (zd (zT rfl (zb (za ?_))))
 refine s_as ?_
 refine zf (zd (zh (zg (zn ?_))))
 cases F4
 exact zk [] [] Tryz.results161
 refine s_mv ?_
 refine s_eq ?_
 refine zz ?_
 refine s_mv ?_
 refine zp _ 27 F4 ?_ ?_<;>intro C14 F5
 refine r_no rfl (r_no rfl ?_)
 refine zA ?_
 refine zf (zd (zT rfl (zb (za ?_))))
 refine s_as ?_
 refine zf (zd (zh (zg (zn ?_))))
 cases F5
 exact zk [] [] Tryz.results161
 refine s_mv ?_
 refine s_eq ?_
 refine zz ?_
 refine zf (zd ?_)
 refine zm F5 ?_ ?_<;>intro C15 F6
 refine zb (za ?_)
 refine s_as ?_
 refine zf (zd (zh (zg (zn ?_))))
 cases F6
 exact zk [] [] Tryz.results161
 refine zi (zd (zb (za ?_)))
 refine s_mv ?_
 refine zaY ?_
 refine s_mv ?_
 refine zp _ 33 F6 ?_ ?_<;>intro C16 F7
 refine s_mv ?_
 refine s_ge ?_
 refine s_mv ?_
 refine zp _ 36 F7 ?_ ?_<;>intro C17 F8
 refine s_mv ?_
 refine s_le ?_
 refine zA ?_
 refine s_mv ?_
 refine zp _ 40 F8 ?_ ?_<;>intro C18 F9
 refine r_no rfl (r_no rfl ?_)
 refine zA ?_
 refine zA ?_
 refine s_as ?_
 refine zf (zd (zh (zn ?_)))
 cases F9
 exact zk [] [] Tryz.results161
 refine s_mv ?_
 refine s_eq ?_
 refine zz ?_
 refine zA ?_
 refine s_as ?_
 refine zf (zd (zh (zn ?_)))
 cases F9
 exact zk [] [] Tryz.results161
 refine r_no rfl (r_no rfl ?_)
 refine zz ?_
 refine s_mv ?_
 refine s_mv ?_
 refine s_eq ?_
 refine zz ?_
 refine zA ?_
 refine s_as ?_
 refine zf (zd (zh (zn ?_)))
 cases F8
 exact zk [] [] Tryz.results161
 iterate 10 refine r_no rfl ?_
 refine zz ?_
 refine s_as ?_
 refine zf (zd (zh (zn ?_)))
 cases F7
 exact zk [] [] Tryz.results161
def m_spec_NameValid_AC (fuel:Nat):Prop:=∀ (x1:ByteArray) (r:Bool),zd9 fuel x1=some r→AC Tryz.prog 142 [.t (.sc (.str x1))] noOb (.t (.sc (.bool r))) noOb
theorem zhZ (fuel:Nat):m_spec_NameValid_AC fuel:=by
 intro x1 r F0
 unfold zd9 at F0
 refine AC_i [.t (.sc (.bool r))] Tryz.func142 rfl Tryz.ntmps142 ?_
 intro C hC
 refine zb (za ?_)
 refine s_as ?_
 refine zf (zd (zb (zb (za ?_))))
 refine s_mv ?_
 refine zhr ?_
 refine s_mv ?_
 refine zp _ 6 F0 ?_ ?_<;>intro C1 F1
 refine r_no rfl (r_no rfl ?_)
 refine zA ?_
 refine zf (zd (zT rfl (zb (za ?_))))
 refine s_as ?_
 refine zf (zd (zh (zg (zn ?_))))
 cases F1
 exact zk [] [] Tryz.results142
 refine s_mv ?_
 refine zhr ?_
 refine zz ?_
 refine zf (zd ?_)
 refine zm F1 ?_ ?_<;>intro C2 F2
 refine zb (za ?_)
 refine s_as ?_
 refine zf (zd (zh (zg (zn ?_))))
 cases F2
 exact zk [] [] Tryz.results142
 refine zi (zd (zb (zb (za ?_))))
 refine s_as ?_
 refine zf (zd (zl ?_))
 refine zaK (β:=Int) [2,3,10,11,12,13,14,15,16,17,18,19,20,21,22,23,24,25,26] [] [] (fun a=>[(3,.t (.sc (.int .i64 a.2)))]) (fun a=>[]) (fun a=>a.1≤fuel∧zbH a.1 x1 a.2=some r) (fuel,0) ⟨Nat.le_refl _,F2⟩ ?_
 clear F2
 rintro ⟨fu,g3⟩ ⟨hl4,F3⟩
 dsimp only at hl4 F3 ⊢
 obtain _ | fu:=fu
 · rw [zbH] at F3;cases F3
 rw [zbH] at F3
 refine zb (zb (za ?_))
 refine s_mv ?_
 refine s_mv ?_
 refine zfD yU9 ?_
 refine s_lt ?_
 refine s_mv ?_
 refine zp _ 14 F3 ?_ ?_<;>intro C5 F4
 refine s_mv ?_
 refine s_le ?_
 refine zA ?_
 refine zf (zd ?_)
 refine zm F4 ?_ ?_<;>intro C6 F5
 refine zi (zd (zb (zl (zb (za ?_)))))
 refine s_mv ?_
 refine s_mv ?_
 obtain ⟨v7,V7,F6⟩:=zc F5
 refine s_ixS V7 yU9 ?_
 refine s_mv ?_
 refine s_eq ?_
 obtain ⟨v8,V8,F7⟩:=zc F6
 refine zv [] (m_spec_l1Letter_ok fu _ _ _ V8) ?_
 refine zaY ?_
 refine zf (zd ?_)
 refine zm F7 ?_ ?_<;>intro C9 F8
 refine zb (za ?_)
 refine s_as ?_
 refine zf (zd (zh (zj (zg (zw (zj (zg (zn ?_))))))))
 cases F8
 exact zk [] [] Tryz.results142
 refine zi (zW (zd (za ?_)))
 refine s_mv ?_
 refine zJ rfl ?_
 refine s_as ?_
 refine zf ?_
 exact s_rn (fu,(w64 (g3+1))) ⟨by first | omega | (dsimp only;omega),F8⟩
 refine zy (zq (zo (zr (zd (zb (za ?_))))))
 refine s_mv ?_
 refine zfD yU9 ?_
 refine s_ge ?_
 refine s_mv ?_
 refine zp _ 30 F5 ?_ ?_<;>intro C10 F6
 refine s_mv ?_
 refine zfD yU9 ?_
 refine s_le ?_
 refine zA ?_
 refine s_as ?_
 refine zf (zd (zh (zn ?_)))
 cases F6
 exact zk [] [] Tryz.results142
 iterate 3 refine r_no rfl ?_
 refine zz ?_
 refine s_as ?_
 refine zf (zd (zh (zn ?_)))
 cases F6
 exact zk [] [] Tryz.results142
 refine r_no rfl (r_no rfl ?_)
 refine zz ?_
 refine zf (zd (zaX rfl (zy (zq (zo (zr (zd (zb (za ?_)))))))))
 refine s_mv ?_
 refine zfD yU9 ?_
 refine s_ge ?_
 refine s_mv ?_
 refine zp _ 30 F4 ?_ ?_<;>intro C11 F5
 refine s_mv ?_
 refine zfD yU9 ?_
 refine s_le ?_
 refine zA ?_
 refine s_as ?_
 refine zf (zd (zh (zn ?_)))
 cases F5
 exact zk [] [] Tryz.results142
 iterate 3 refine r_no rfl ?_
 refine zz ?_
 refine s_as ?_
 refine zf (zd (zh (zn ?_)))
 cases F5
 exact zk [] [] Tryz.results142
def m_spec_l1Scopes_AC (fuel:Nat):Prop:=∀ (x1:(List Int)) (r:Bool),zez fuel x1=some r→AC Tryz.prog 143 [.t (.sl (x1.map rI))] noOb (.t (.sc (.bool r))) noOb
theorem zii (fuel:Nat):m_spec_l1Scopes_AC fuel:=by
 intro x1 r F0
 unfold zez at F0
 refine AC_i [.t (.sc (.bool r))] Tryz.func143 rfl Tryz.ntmps143 ?_
 intro C hC
 refine zb (za ?_)
 refine s_as ?_
 refine zf (zd (zb (zb (za ?_))))
 refine s_as ?_
 refine zf (zd (zl ?_))
 refine zaK (β:=Int) [2,3,4,5,6,7,8,9,10,11,12,13,14,15,16,17,18,19,20,21,22,23,24,25,26,27,28,29,30,31,32,33,34,35,36,37,38,39,40,41] [] [] (fun a=>[(3,.t (.sc (.int .i64 a.2)))]) (fun a=>[]) (fun a=>a.1≤fuel∧zbB a.1 x1 a.2=some r) (fuel,0) ⟨Nat.le_refl _,F0⟩ ?_
 clear F0
 rintro ⟨fu,g1⟩ ⟨hl2,F1⟩
 dsimp only at hl2 F1 ⊢
 obtain _ | fu:=fu
 · rw [zbB] at F1;cases F1
 rw [zbB] at F1
 refine zb (zb (za ?_))
 refine s_mv ?_
 refine s_mv ?_
 refine zC yU27 ?_
 refine s_lt ?_
 refine s_mv ?_
 refine zp _ 8 F1 ?_ ?_<;>intro C3 F2
 refine s_mv ?_
 refine s_le ?_
 refine zA ?_
 refine zf (zd ?_)
 refine zm F2 ?_ ?_<;>intro C4 F3
 refine zi (zd (zb (zl (zb ?_))))
 refine zO yMix (by kernel_rfl) ?_
 refine s_mv ?_
 refine s_mv ?_
 obtain ⟨v5,V5,F4⟩:=zc F3
 refine zK rI V5 rfl yE27 ?_
 refine zu yA3 ?_
 refine s_lt ?_
 refine s_mv ?_
 refine zp _ 19 F4 ?_ ?_<;>intro C6 F5
 iterate 5 refine r_no rfl ?_
 refine zA ?_
 refine s_mv ?_
 iterate 14 refine r_no rfl ?_
 refine zA ?_
 refine zae (by kernel_rfl) ?_
 refine zd (zT rfl (zb (za ?_)))
 refine s_as ?_
 refine zf (zd (zh (zj (zg (zw (zj (zg (zn ?_))))))))
 cases F5
 exact zk [] [] Tryz.results143
 refine s_mv ?_
 refine s_mv ?_
 obtain ⟨v7,V7,F6⟩:=zc F5
 refine zK rI V7 rfl yE27 ?_
 refine zu yA3 ?_
 refine s_gt ?_
 refine zz ?_
 refine s_mv ?_
 refine zp _ 26 F6 ?_ ?_<;>intro C8 F7
 iterate 14 refine r_no rfl ?_
 refine zA ?_
 refine zae (by kernel_rfl) ?_
 refine zd (zT rfl (zb (za ?_)))
 refine s_as ?_
 refine zf (zd (zh (zj (zg (zw (zj (zg (zn ?_))))))))
 cases F7
 exact zk [] [] Tryz.results143
 refine s_mv ?_
 refine s_gt ?_
 refine s_mv ?_
 refine zp _ 29 F7 ?_ ?_<;>intro C9 F8
 refine s_mv ?_
 refine s_mv ?_
 obtain ⟨v10,V10,F9⟩:=zc F8
 refine zK rI V10 rfl yE27 ?_
 refine zu yA3 ?_
 refine s_mv ?_
 refine s_mv ?_
 refine zh9 rfl ?_
 obtain ⟨v11,V11,F10⟩:=zc F9
 refine zK rI V11 rfl yE27 ?_
 refine zu yA3 ?_
 refine s_le ?_
 refine zA ?_
 refine zz ?_
 refine zae (by kernel_rfl) ?_
 refine zd ?_
 refine zm F10 ?_ ?_<;>intro C12 F11
 refine zb (za ?_)
 refine s_as ?_
 refine zf (zd (zh (zj (zg (zw (zj (zg (zn ?_))))))))
 cases F11
 exact zk [] [] Tryz.results143
 refine zi (zW (zd (za ?_)))
 refine s_mv ?_
 refine zJ rfl ?_
 refine s_as ?_
 refine zf ?_
 exact s_rn (fu,(w64 (g1+1))) ⟨by first | omega | (dsimp only;omega),F11⟩
 iterate 10 refine r_no rfl ?_
 refine zz ?_
 refine zz ?_
 refine zae (by kernel_rfl) ?_
 refine zd (zaX rfl (zi (zW (zd (za ?_)))))
 refine s_mv ?_
 refine zJ rfl ?_
 refine s_as ?_
 refine zf ?_
 exact s_rn (fu,(w64 (g1+1))) ⟨by first | omega | (dsimp only;omega),F8⟩
 refine zy (zq (zo (zr (zd (zb (za ?_))))))
 refine s_mv ?_
 refine zC yU27 ?_
 refine s_le ?_
 refine s_as ?_
 refine zf (zd (zh (zn ?_)))
 cases F3
 exact zk [] [] Tryz.results143
 refine r_no rfl (r_no rfl ?_)
 refine zz ?_
 refine zf (zd (zaX rfl (zy (zq (zo (zr (zd (zb (za ?_)))))))))
 refine s_mv ?_
 refine zC yU27 ?_
 refine s_le ?_
 refine s_as ?_
 refine zf (zd (zh (zn ?_)))
 cases F2
 exact zk [] [] Tryz.results143
def zhm (fuel:Nat):Prop:=∀ (x1:Form) (x2:Int) (r:Bool),zfH fuel x1 x2=some r→AC Tryz.prog 99 [.ag [.t (.sc (.int .i64 x1.kind)),.t (.sc (.str x1.name)),.t (.sc (.int .i64 x1.n)),.t (.sl (x1.scopes.map rI)),.t (.sl (x1.kids.map Form.row))],.t (.sc (.int .i64 x2))] noOb (.t (.sc (.bool r))) noOb
theorem m_spec_l1Is_st (fu:Nat) (ih_m_spec_l1Is:∀ k,k≤fu→zhm k):zhm (fu+1):=by
 intro x1 x2 r F0
 rw [zfH] at F0
 refine AC_i [.t (.sc (.bool r))] Tryz.func99 rfl Tryz.ntmps99 ?_
 intro C hC
 refine zb (za ?_)
 refine zaL ?_
 refine s_as ?_
 refine zf (zd (zb (zb (za ?_))))
 refine s_mv ?_
 refine s_eq ?_
 refine zf (zd ?_)
 refine zm F0 ?_ ?_<;>intro C1 F1
 refine zb (za ?_)
 refine s_as ?_
 refine zf (zd (zh (zg (zn ?_))))
 cases F1
 exact zk [] [] Tryz.results99
 refine zi (zd (zb (zb (za ?_))))
 refine s_fa zcY ?_
 refine zu yA3 ?_
 refine zf (zd (zl (zb (za ?_))))
 refine s_eq ?_
 refine s_as ?_
 refine zf (zd ?_)
 refine zm F1 ?_ ?_<;>intro C2 F2
 refine zb (za ?_)
 refine s_fa zcm ?_
 refine zu yA9 ?_
 obtain ⟨v3,V3,F3⟩:=zc F2
 refine zv [] (zhZ fu _ _ V3) ?_
 refine s_mv ?_
 refine zp _ 15 F3 ?_ ?_<;>intro C4 F4
 refine s_fa zhq ?_
 refine zu yA3 ?_
 refine s_eq ?_
 refine zA ?_
 refine s_mv ?_
 refine zp _ 20 F4 ?_ ?_<;>intro C5 F5
 refine s_fa zf3 ?_
 refine zu yA27 ?_
 obtain ⟨v6,V6,F6⟩:=zc F5
 refine zv [] (zii fu _ _ V6) ?_
 refine zA ?_
 refine s_mv ?_
 refine zp _ 25 F6 ?_ ?_<;>intro C7 F7
 refine s_fa zF ?_
 refine zu yA24 ?_
 refine zC yU24 ?_
 refine s_eq ?_
 refine zA ?_
 refine s_as ?_
 refine zf (zd (zh (zj (zg (zn ?_)))))
 cases F7
 exact zk [] [] Tryz.results99
 iterate 4 refine r_no rfl ?_
 refine zz ?_
 refine s_as ?_
 refine zf (zd (zh (zj (zg (zn ?_)))))
 cases F7
 exact zk [] [] Tryz.results99
 iterate 3 refine r_no rfl ?_
 refine zz ?_
 refine s_mv ?_
 iterate 4 refine r_no rfl ?_
 refine zz ?_
 refine s_as ?_
 refine zf (zd (zh (zj (zg (zn ?_)))))
 cases F5
 exact zk [] [] Tryz.results99
 iterate 3 refine r_no rfl ?_
 refine zz ?_
 refine s_mv ?_
 iterate 3 refine r_no rfl ?_
 refine zz ?_
 refine s_mv ?_
 iterate 4 refine r_no rfl ?_
 refine zz ?_
 refine s_as ?_
 refine zf (zd (zh (zj (zg (zn ?_)))))
 cases F4
 exact zk [] [] Tryz.results99
 refine zb (za ?_)
 refine s_eq ?_
 refine s_as ?_
 refine zf (zd ?_)
 refine zm F2 ?_ ?_<;>intro C8 F3
 refine zb (za ?_)
 refine s_fa zcm ?_
 refine zu yA9 ?_
 refine zhr ?_
 refine s_mv ?_
 refine zp _ 36 F3 ?_ ?_<;>intro C9 F4
 refine s_fa zhq ?_
 refine zu yA3 ?_
 refine s_ge ?_
 refine zA ?_
 refine s_mv ?_
 refine zp _ 41 F4 ?_ ?_<;>intro C10 F5
 refine s_fa zhq ?_
 refine zu yA3 ?_
 refine s_le ?_
 refine zA ?_
 refine s_mv ?_
 refine zp _ 46 F5 ?_ ?_<;>intro C11 F6
 refine s_fa zf3 ?_
 refine zu yA27 ?_
 refine zC yU27 ?_
 refine s_eq ?_
 refine zA ?_
 refine s_mv ?_
 refine zp _ 52 F6 ?_ ?_<;>intro C12 F7
 refine s_fa zF ?_
 refine zu yA24 ?_
 refine zC yU24 ?_
 refine s_eq ?_
 refine zA ?_
 refine s_as ?_
 refine zf (zd (zh (zj (zg (zn ?_)))))
 cases F7
 exact zk [] [] Tryz.results99
 iterate 4 refine r_no rfl ?_
 refine zz ?_
 refine s_as ?_
 refine zf (zd (zh (zj (zg (zn ?_)))))
 cases F7
 exact zk [] [] Tryz.results99
 iterate 4 refine r_no rfl ?_
 refine zz ?_
 refine s_mv ?_
 iterate 4 refine r_no rfl ?_
 refine zz ?_
 refine s_as ?_
 refine zf (zd (zh (zj (zg (zn ?_)))))
 cases F6
 exact zk [] [] Tryz.results99
 iterate 3 refine r_no rfl ?_
 refine zz ?_
 refine s_mv ?_
 iterate 4 refine r_no rfl ?_
 refine zz ?_
 refine s_mv ?_
 iterate 4 refine r_no rfl ?_
 refine zz ?_
 refine s_as ?_
 refine zf (zd (zh (zj (zg (zn ?_)))))
 cases F5
 exact zk [] [] Tryz.results99
 iterate 3 refine r_no rfl ?_
 refine zz ?_
 refine s_mv ?_
 iterate 3 refine r_no rfl ?_
 refine zz ?_
 refine s_mv ?_
 iterate 4 refine r_no rfl ?_
 refine zz ?_
 refine s_mv ?_
 iterate 4 refine r_no rfl ?_
 refine zz ?_
 refine s_as ?_
 refine zf (zd (zh (zj (zg (zn ?_)))))
 cases F4
 exact zk [] [] Tryz.results99
 refine zi (zW (zd (zb (zb (za ?_)))))
 refine s_fa zcY ?_
 refine zu yA3 ?_
 refine s_ne ?_
 refine s_mv ?_
 refine zp _ 61 F3 ?_ ?_<;>intro C13 F4
 iterate 3 refine r_no rfl ?_
 refine zA ?_
 refine s_mv ?_
 iterate 3 refine r_no rfl ?_
 refine zA ?_
 refine s_mv ?_
 iterate 4 refine r_no rfl ?_
 refine zA ?_
 refine zf (zd (zT rfl (zb (za ?_))))
 refine s_as ?_
 refine zf (zd (zh (zg (zn ?_))))
 cases F4
 exact zk [] [] Tryz.results99
 refine s_fa zcm ?_
 refine zu yA9 ?_
 refine s_neS ?_
 refine zz ?_
 refine s_mv ?_
 refine zp _ 66 F4 ?_ ?_<;>intro C14 F5
 iterate 3 refine r_no rfl ?_
 refine zA ?_
 refine s_mv ?_
 iterate 4 refine r_no rfl ?_
 refine zA ?_
 refine zf (zd (zT rfl (zb (za ?_))))
 refine s_as ?_
 refine zf (zd (zh (zg (zn ?_))))
 cases F5
 exact zk [] [] Tryz.results99
 refine s_fa zhq ?_
 refine zu yA3 ?_
 refine s_ne ?_
 refine zz ?_
 refine s_mv ?_
 refine zp _ 71 F5 ?_ ?_<;>intro C15 F6
 iterate 4 refine r_no rfl ?_
 refine zA ?_
 refine zf (zd (zT rfl (zb (za ?_))))
 refine s_as ?_
 refine zf (zd (zh (zg (zn ?_))))
 cases F6
 exact zk [] [] Tryz.results99
 refine s_fa zf3 ?_
 refine zu yA27 ?_
 refine zC yU27 ?_
 refine s_ne ?_
 refine zz ?_
 refine zf (zd ?_)
 refine zm F6 ?_ ?_<;>intro C16 F7
 refine zb (za ?_)
 refine s_as ?_
 refine zf (zd (zh (zg (zn ?_))))
 cases F7
 exact zk [] [] Tryz.results99
 refine zi (zd (zb (zb (za ?_))))
 refine s_as ?_
 refine zf (zd (zl ?_))
 refine zaK (β:=Int) [4,5,77,78,79,80,81,82,83,84,85,86,87,88,89,90,91,92] [] [] (fun a=>[(5,.t (.sc (.int .i64 a.2)))]) (fun a=>[]) (fun a=>a.1≤fu∧zeo a.1 x1 x2 a.2=some r∧0≤a.2) (fu,0) ⟨Nat.le_refl _,F7,by simp⟩ ?_
 clear F7
 rintro ⟨fu,g17⟩ ⟨hl18,F8,hn_g17⟩
 dsimp only at hl18 F8 hn_g17 ⊢
 obtain _ | fu:=fu
 · rw [zeo] at F8;cases F8
 rw [zeo] at F8
 refine zb (zb (za ?_))
 refine s_mv ?_
 refine s_fa zF ?_
 refine zu yA24 ?_
 refine zC yU24 ?_
 refine s_lt ?_
 refine zf (zd ?_)
 refine zm F8 ?_ ?_<;>intro C19 F9
 refine zM 79 (fun B20=>?_)
 refine zi (zd (zb (zl (zb (za ?_)))))
 refine s_fa zF ?_
 refine zu yA24 ?_
 refine s_mv ?_
 obtain ⟨v21,V21,F10⟩:=zc F9
 refine zK Form.row V21 (Form.row_eq _) yE24 ?_
 refine zam yA32 yS32 ?_
 refine s_mv ?_
 refine zh9 rfl ?_
 obtain ⟨v22,V22,F11⟩:=zc F10
 refine zv [] (ih_m_spec_l1Is fu (by omega) _ _ _ V22) ?_
 refine zaY ?_
 refine zf (zd ?_)
 refine zm F11 ?_ ?_<;>intro C23 F12
 refine zb (za ?_)
 refine s_as ?_
 refine zf (zd (zh (zj (zg (zw (zj (zg (zn ?_))))))))
 cases F12
 exact zk [] [] Tryz.results99
 refine zi (zW (zd (za ?_)))
 refine s_mv ?_
 refine zJ (zas C19 B20 hn_g17) ?_
 refine s_as ?_
 refine zf ?_
 exact s_rn (fu,(g17+1)) ⟨by first | omega | (dsimp only;omega),F12,by first | omega | (dsimp only;omega)⟩
 refine zy (zq (zo (zr (zd (zb (za ?_))))))
 refine s_as ?_
 refine zf (zd (zh (zn ?_)))
 cases F9
 exact zk [] [] Tryz.results99
theorem m_spec_l1Is_all (fuel:Nat):zhm fuel:=by
 induction fuel using Nat.strongRecOn with
 | _ N ih =>
   cases N with
   | zero=>exact (by intro x1 x2 r h;rw [zfH] at h;cases h)
   | succ fu=>exact m_spec_l1Is_st fu (fun k hk=>(ih k (by omega)))
theorem m_spec_l1Is_ok (fuel:Nat):zhm fuel:=(m_spec_l1Is_all fuel)
def zfZ (fuel:Nat):Prop:=∀ (x1:Form) (r:Int),zdJ fuel x1=some r→AC Tryz.prog 98 [.ag [.t (.sc (.int .i64 x1.kind)),.t (.sc (.str x1.name)),.t (.sc (.int .i64 x1.n)),.t (.sl (x1.scopes.map rI)),.t (.sl (x1.kids.map Form.row))]] noOb (.t (.sc (.int .i64 r))) noOb
theorem m_spec_l1Count_st (fu:Nat) (ih_m_spec_l1Count:∀ k,k≤fu→zfZ k):zfZ (fu+1):=by
 intro x1 r F0
 rw [zdJ] at F0
 refine AC_i [.t (.sc (.int .i64 r))] Tryz.func98 rfl Tryz.ntmps98 ?_
 intro C hC
 refine zb (za ?_)
 refine zaL ?_
 refine s_as ?_
 refine zf (zd (zb (za ?_)))
 refine s_as ?_
 refine zf (zd (zb (zb (za ?_))))
 refine s_as ?_
 refine zf (zd (zl ?_))
 refine zaK (β:=Int × Int) [3,4,5,6,7,8,9,10,11,12,13,14,15,16,17,18,19] [] [] (fun a=>[(3,.t (.sc (.int .i64 a.2.1))),(4,.t (.sc (.int .i64 a.2.2)))]) (fun a=>[]) (fun a=>a.1≤fu∧zcj a.1 x1 a.2.1 a.2.2=some r∧0≤a.2.2) (fu,1,0) ⟨Nat.le_refl _,F0,by simp⟩ ?_
 clear F0
 rintro ⟨fu,g1,g2⟩ ⟨hl3,F1,hn_g2⟩
 dsimp only at hl3 F1 hn_g2 ⊢
 obtain _ | fu:=fu
 · rw [zcj] at F1;cases F1
 rw [zcj] at F1
 refine zb (zb (za ?_))
 refine s_mv ?_
 refine s_fa zF ?_
 refine zu yA24 ?_
 refine zC yU24 ?_
 refine s_lt ?_
 refine zf (zd ?_)
 refine zm F1 ?_ ?_<;>intro C4 F2
 refine zM 7 (fun B5=>?_)
 refine zi (zd (zb (zl (za ?_))))
 refine s_mv ?_
 refine s_fa zF ?_
 refine zu yA24 ?_
 refine s_mv ?_
 obtain ⟨v6,V6,F3⟩:=zc F2
 refine zK Form.row V6 (Form.row_eq _) yE24 ?_
 refine zam yA32 yS32 ?_
 obtain ⟨v7,V7,F4⟩:=zc F3
 refine zv [] (ih_m_spec_l1Count fu (by omega) _ _ V7) ?_
 refine zJ rfl ?_
 refine s_as ?_
 refine zf (zW (zd (za ?_)))
 refine s_mv ?_
 refine zJ (zas C4 B5 hn_g2) ?_
 refine s_as ?_
 refine zf ?_
 exact s_rn (fu,(w64 (g1+v7)),(g2+1)) ⟨by first | omega | (dsimp only;omega),F4,by first | omega | (dsimp only;omega)⟩
 refine zy (zq (zo (zr (zd (zb (za ?_))))))
 refine s_mv ?_
 refine s_as ?_
 refine zf (zd (zh (zn ?_)))
 cases F2
 exact zk [] [] Tryz.results98
theorem m_spec_l1Count_all (fuel:Nat):zfZ fuel:=by
 induction fuel using Nat.strongRecOn with
 | _ N ih =>
   cases N with
   | zero=>exact (by intro x1 r h;rw [zdJ] at h;cases h)
   | succ fu=>exact m_spec_l1Count_st fu (fun k hk=>(ih k (by omega)))
theorem ziE (fuel:Nat):zfZ fuel:=(m_spec_l1Count_all fuel)
def m_spec_FormValid_AC (fuel:Nat):Prop:=∀ (x1:Form) (r:Bool),zbn fuel x1=some r→AC Tryz.prog 47 [.ag [.t (.sc (.int .i64 x1.kind)),.t (.sc (.str x1.name)),.t (.sc (.int .i64 x1.n)),.t (.sl (x1.scopes.map rI)),.t (.sl (x1.kids.map Form.row))]] noOb (.t (.sc (.bool r))) noOb
theorem zcd (fuel:Nat):m_spec_FormValid_AC fuel:=by
 intro x1 r F0
 unfold zbn at F0
 refine AC_i [.t (.sc (.bool r))] Tryz.func47 rfl Tryz.ntmps47 ?_
 intro C hC
 refine zb (za ?_)
 refine zaL ?_
 refine s_as ?_
 refine zf (zd (zb (za ?_)))
 refine zI yA32 yS32 ?_
 obtain ⟨v1,V1,F1⟩:=zc F0
 refine zv [] (m_spec_l1Is_ok fuel _ _ _ V1) ?_
 refine s_mv ?_
 refine zp _ 5 F1 ?_ ?_<;>intro C2 F2
 refine zI yA32 yS32 ?_
 obtain ⟨v3,V3,F3⟩:=zc F2
 refine zv [] (ziE fuel _ _ V3) ?_
 refine s_le ?_
 refine zA ?_
 refine s_as ?_
 refine zf (zd (zh (zn ?_)))
 cases F3
 exact zk [] [] Tryz.results47
 iterate 3 refine r_no rfl ?_
 refine zz ?_
 refine s_as ?_
 refine zf (zd (zh (zn ?_)))
 cases F2
 exact zk [] [] Tryz.results47
def m_spec_ParseForm_AC (fuel:Nat):Prop:=∀ (x1:ByteArray) (r:(Form × Bool)),zhF fuel x1=some r→AC Tryz.prog 119 [.t (.sc (.str x1))] noOb (.tp [.ag [.t (.sc (.int .i64 r.1.kind)),.t (.sc (.str r.1.name)),.t (.sc (.int .i64 r.1.n)),.t (.sl (r.1.scopes.map rI)),.t (.sl (r.1.kids.map Form.row))],.t (.sc (.bool r.2))]) noOb
theorem m_spec_ParseForm_ok (fuel:Nat):m_spec_ParseForm_AC fuel:=by
 intro x1 r F0
 unfold zhF at F0
 refine AC_i [.ag [.t (.sc (.int .i64 r.1.kind)),.t (.sc (.str r.1.name)),.t (.sc (.int .i64 r.1.n)),.t (.sl (r.1.scopes.map rI)),.t (.sl (r.1.kids.map Form.row))],.t (.sc (.bool r.2))] Tryz.func119 rfl Tryz.ntmps119 ?_
 intro C hC
 refine zb (za ?_)
 refine zU yZ32 ?_
 refine s_as ?_
 refine zf (zd (zb (za ?_)))
 refine s_mv ?_
 obtain ⟨v1,V1,F1⟩:=zc F0
 refine zv [] (m_spec_l1Read_ok fuel _ _ _ _ V1) ?_
 refine s_mv ?_
 refine zbf ?_
 refine zbf ?_
 refine zU yZ32 ?_
 refine zac yS32 ?_
 refine s_as ?_
 refine zf (zd (zb (zb (za ?_))))
 refine s_mv ?_
 refine s_lt ?_
 refine s_mv ?_
 refine zp _ 13 F1 ?_ ?_<;>intro C2 F2
 iterate 6 refine r_no rfl ?_
 refine zA ?_
 refine s_mv ?_
 iterate 3 refine r_no rfl ?_
 refine zA ?_
 refine zf (zd (zT rfl (zb (za ?_))))
 refine zgD yZ32 yL32 ?_
 refine zac yS32 ?_
 refine s_as ?_
 refine zf (zd (zh (zg (zn ?_))))
 cases F2
 exact z4 [] [] (by rw [Tryz.results119];exact (zat (by conv=>lhs;whnf) (by conv=>lhs;whnf) yA32 yS32 rfl (zai (by conv=>lhs;whnf) zaf)))
 refine s_mv ?_
 refine s_mv ?_
 obtain ⟨v3,V3,F3⟩:=zc F2
 refine zv [] (zgu fuel _ _ _ V3) ?_
 refine s_mv ?_
 refine zfD yU9 ?_
 refine s_ne ?_
 refine zz ?_
 refine s_mv ?_
 refine zp _ 21 F3 ?_ ?_<;>intro C4 F4
 iterate 3 refine r_no rfl ?_
 refine zA ?_
 refine zf (zd (zT rfl (zb (za ?_))))
 refine zgD yZ32 yL32 ?_
 refine zac yS32 ?_
 refine s_as ?_
 refine zf (zd (zh (zg (zn ?_))))
 cases F4
 exact z4 [] [] (by rw [Tryz.results119];exact (zat (by conv=>lhs;whnf) (by conv=>lhs;whnf) yA32 yS32 rfl (zai (by conv=>lhs;whnf) zaf)))
 refine zI yA32 yS32 ?_
 obtain ⟨v5,V5,F5⟩:=zc F4
 refine zv [] (zcd fuel _ _ V5) ?_
 refine zaY ?_
 refine zz ?_
 refine zf (zd ?_)
 refine zm F5 ?_ ?_<;>intro C6 F6
 refine zb (za ?_)
 refine zgD yZ32 yL32 ?_
 refine zac yS32 ?_
 refine s_as ?_
 refine zf (zd (zh (zg (zn ?_))))
 cases F6
 exact z4 [] [] (by rw [Tryz.results119];exact (zat (by conv=>lhs;whnf) (by conv=>lhs;whnf) yA32 yS32 rfl (zai (by conv=>lhs;whnf) zaf)))
 refine zi (zd (zb (za ?_)))
 refine zI yA32 yS32 ?_
 refine zac yS32 ?_
 refine s_as ?_
 refine zf (zd (zh (zn ?_)))
 cases F6
 exact z4 [] [] (by rw [Tryz.results119];exact (zat (by conv=>lhs;whnf) (by conv=>lhs;whnf) yA32 yS32 rfl (zai (by conv=>lhs;whnf) zaf)))
end Go.Abs
