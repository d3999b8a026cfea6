/- A part of the proof: what the functions that the law calls answer, as pure values. -/
import Derived.Test.YtpdacpnncmemgaaGreatK836a3054a2c5
import Derived.Test.YtpdacpnncmemgaaGreatKa647db9ee9e6
import Derived.Test.YtpdacpnncmemgaaGreatK57e2d81719e9
import Derived.Test.YtpdacpnncmemgaaGreatKfaf2dbb53499
set_option linter.unusedSimpArgs false
set_option linter.unusedVariables false
set_option maxRecDepth 100000
set_option maxHeartbeats 4000000
namespace Go.Abs
open Go.Proofs
def zfT (fuel:Nat):Prop:=∀ (x1:ByteArray) (x2:Int) (x3:Int) (r:(Form × Int)),zgc fuel x1 x2 x3=some r→AC Tryz.prog 155 [.t (.sc (.str x1)),.t (.sc (.int .i64 x2)),.t (.sc (.int .i64 x3))] noOb (.tp [.ag [.t (.sc (.int .i64 r.1.kind)),.t (.sc (.str r.1.name)),.t (.sc (.int .i64 r.1.n)),.t (.sl (r.1.scopes.map rI)),.t (.sl (r.1.kids.map Form.row))],.t (.sc (.int .i64 r.2))]) noOb
theorem m_spec_l1Read_st (fu:Nat) (ih_m_spec_l1Read:∀ k,k≤fu→zfT k):zfT (fu+1):=by
 intro x1 x2 x3 r F0
 rw [zgc] at F0
 refine AC_i [.ag [.t (.sc (.int .i64 r.1.kind)),.t (.sc (.str r.1.name)),.t (.sc (.int .i64 r.1.n)),.t (.sl (r.1.scopes.map rI)),.t (.sl (r.1.kids.map Form.row))],.t (.sc (.int .i64 r.2))] Tryz.func155 rfl Tryz.ntmps155 ?_
 intro C hC
 refine zb (za ?_)
 refine z4 yZ32 ?_
 refine s_as ?_
 refine zf (zd (zb (za ?_)))
 refine s_mv ?_
 refine s_mv ?_
 obtain ⟨v1,V1,F1⟩:=zc F0
 refine zx [] (zfR fu _ _ _ V1) ?_
 refine s_as ?_
 refine zf (zd (zb ?_))
 refine zca (α:=Nat × Bool) [14,15,16,17,18,19,20,21] [] [] (fun a=>[(21,.t (.sc (.bool a.2)))]) (fun a=>[]) (fun a=>a.1≤fu∧zel a.1 x1 x3 v1 a.2=some r) ?_ ?_
 refine za ?_
 refine s_mv ?_
 refine s_mv ?_
 refine ze3 yU9 ?_
 refine s_ge ?_
 refine s_mv ?_
 refine zo _ 18 F1 ?_ ?_<;>intro C2 F2
 refine r_no rfl (r_no rfl ?_)
 refine zz ?_
 refine zf ?_
 exact s_jn (fu,true) ⟨by first | omega | (dsimp only;omega),F2⟩
 refine s_mv ?_
 refine s_eq ?_
 refine zy ?_
 refine zf ?_
 exact s_jn (fu,(decide (x3=0))) ⟨by first | omega | (dsimp only;omega),F2⟩
 clear F1
 rintro ⟨fu,g3⟩ ⟨hl4,F2⟩
 dsimp only at hl4 F2 ⊢
 obtain _ | fu:=fu
 · rw [zel] at F2;cases F2
 rw [zel] at F2
 refine zn F2 ?_ ?_<;>intro C5 F3
 refine zb (za ?_)
 refine zgQ yZ32 yL32 ?_
 refine zal yS32 ?_
 refine s_as ?_
 refine zf (zd (zh (zg (zm ?_))))
 cases F3
 exact zag [] [] (by rw [Tryz.results155];exact (zaE (by conv=>lhs;whnf) (by conv=>lhs;whnf) yA32 yS32 rfl (zau (by conv=>lhs;whnf) zar)))
 refine zi (zd (zb (zb (za ?_))))
 refine s_mv ?_
 refine s_mv ?_
 obtain ⟨v6,V6,F4⟩:=zc F3
 refine s_ixS V6 yU9 ?_
 refine s_ne ?_
 refine zf (zd ?_)
 refine zn F4 ?_ ?_<;>intro C7 F5
 refine zb (za ?_)
 refine s_mv ?_
 refine s_mv ?_
 obtain ⟨v8,V8,F6⟩:=zc F5
 refine zx [] (m_spec_l1Atom_ok fu _ _ _ V8) ?_
 refine zcp ?_
 refine zcp ?_
 refine zal yS32 ?_
 refine s_as ?_
 refine zf (zd (zh (zg (zm ?_))))
 cases F6
 exact zag [] [] (by rw [Tryz.results155];exact (zaE (by conv=>lhs;whnf) (by conv=>lhs;whnf) yA32 yS32 rfl (zau (by conv=>lhs;whnf) zar)))
 refine zi (zd (zb (za ?_)))
 refine zgQ yZ32 yL32 ?_
 refine z4 yZ32 ?_
 refine zal yS32 ?_
 refine zf (zd (zb (za ?_)))
 refine s_mv ?_
 refine s_mv ?_
 refine zH rfl ?_
 obtain ⟨v9,V9,F6⟩:=zc F5
 refine zx [] (zfR fu _ _ _ V9) ?_
 refine s_as ?_
 refine zf (zd ?_)
 refine zca (α:=Nat × Int × (List Form)) [1,7,9,10,37,38,39,40,41,42,43,44,45,46,47,48,49,50,51,52,53,54,55,56,57,58,59,60,61,62,63,64,65,66,67,68,69,70,71,72] [8,5060] [] (fun a=>[(1,.t (.sc (.int .i64 a.2.1)))]) (fun a=>[(8,.box [.t (.sc (.int .i64 3)),.t (.sc (.str (⟨#[]⟩:ByteArray))),.t (.sc (.int .i64 0)),.nl,.ar 5060]),(5060,.arr (a.2.2.map Form.row) 32 true)]) (fun a=>a.1≤fu∧zfS a.1 x1 a.2.1 a.2.2=some r) ?_ ?_
 refine zl ?_
 refine awp_ownB 8 5060 32 [.t (.sc (.int .i64 3)),.t (.sc (.str (⟨#[]⟩:ByteArray))),.t (.sc (.int .i64 0)),.nl,.ar 5060] yI32.choose_spec ?_
 refine zaz [1,7,9,10,37,38,39,40,41,42,43,44,45,46,47,48,49,50,51,52,53,54,55,56,57,58,59,60,61,62,63,64,65,66,67,68,69,70,71,72] [8,5060] [9,67,68] [5060] (fun a:Nat × Int × (List Form)=>a.1) (fun a:Nat × Int × (List Form)=>[(1,.t (.sc (.int .i64 a.2.1)))]) (fun a:Nat × Int × (List Form)=>[(8,.box [.t (.sc (.int .i64 3)),.t (.sc (.str (⟨#[]⟩:ByteArray))),.t (.sc (.int .i64 0)),.nl,.ar 5060]),(5060,.arr (a.2.2.map Form.row) 32 true)]) (fun a:Nat × Int × (List Form)=>a.1≤fu∧zej a.1 x1 x3 a.2.1 a.2.2=some r) (fu,v9,([]:List Form)) ⟨Nat.le_refl _,F6⟩ (by rfl) (by rfl) (fun _=>rfl) (zQ (by conv=>lhs;whnf) (by rfl) zbA) (zV (by conv=>lhs;whnf) (by rfl) (zV (by conv=>lhs;whnf) (by rfl) zbl)) (zcq hC rfl) (by repeat (first | exact zai rfl | refine zax rfl ?_ | refine z8 rfl ?_)) (by repeat (first | exact zaU | exact zan rfl | refine zay rfl ?_ | refine z9 rfl ?_)) ?_
 clear F6
 rintro ⟨fu,g10,g11⟩ ⟨hl12,F7⟩
 dsimp only at hl12 F7 ⊢
 obtain _ | fu:=fu
 · rw [zej] at F7;cases F7
 rw [zej] at F7
 refine zb ?_
 refine zca (α:=Nat × Bool) [37,38,39,40,41,42,43,44,45,46,47,48,49,50,51,52] [] [] (fun a=>[(52,.t (.sc (.bool a.2)))]) (fun a=>[]) (fun a=>a.1≤fu∧zdv a.1 x1 x3 g10 g11 a.2=some r) ?_ ?_
 refine za ?_
 refine s_mv ?_
 refine s_mv ?_
 refine ze3 yU9 ?_
 refine s_lt ?_
 refine s_mv ?_
 refine zo _ 41 F7 ?_ ?_<;>intro C13 F8
 refine s_mv ?_
 refine s_mv ?_
 obtain ⟨v14,V14,F9⟩:=zc F8
 refine s_ixS V14 yU9 ?_
 refine s_ne ?_
 refine zz ?_
 refine s_mv ?_
 refine zo _ 47 F9 ?_ ?_<;>intro C15 F10
 refine s_fa zD ?_
 refine zu yA24 ?_
 refine zgv yU24 ?_
 refine s_lt ?_
 refine zz ?_
 refine zf ?_
 exact s_jn (fu,(decide ((g11.length:Int) < 400))) ⟨by first | omega | (dsimp only;omega),F10⟩
 iterate 4 refine r_no rfl ?_
 refine zy ?_
 refine zf ?_
 exact s_jn (fu,false) ⟨by first | omega | (dsimp only;omega),F10⟩
 iterate 4 refine r_no rfl ?_
 refine zy ?_
 refine s_mv ?_
 iterate 4 refine r_no rfl ?_
 refine zy ?_
 refine zf ?_
 exact s_jn (fu,false) ⟨by first | omega | (dsimp only;omega),F8⟩
 clear F7
 rintro ⟨fu,g16⟩ ⟨hl17,F8⟩
 dsimp only at hl17 F8 ⊢
 obtain _ | fu:=fu
 · rw [zdv] at F8;cases F8
 rw [zdv] at F8
 refine zn F8 ?_ ?_<;>intro C18 F9
 refine zi (zd (zl (zb (za ?_))))
 iterate 3 refine s_mv ?_
 refine s_sub rfl ?_
 obtain ⟨v19,V19,F10⟩:=zc F9
 refine zx [] (ih_m_spec_l1Read fu (by omega) _ _ _ _ V19) ?_
 refine s_mv ?_
 refine zcp ?_
 refine zcp ?_
 refine z4 yZ32 ?_
 refine zal yS32 ?_
 refine s_as ?_
 refine zf (zd (zb (zb (za ?_))))
 refine s_mv ?_
 refine s_lt ?_
 refine zf (zd ?_)
 refine zn F10 ?_ ?_<;>intro C20 F11
 refine zb (za ?_)
 refine zI yA32 yS32 ?_
 refine zal yS32 ?_
 refine s_as ?_
 refine zf (zd (zh (zg (zj (zw (zj (zgp (zm ?_))))))))
 cases F11
 exact zag [] [5060] (by rw [Tryz.results155];exact (zaE (by conv=>lhs;whnf) (by conv=>lhs;whnf) yA32 yS32 rfl (zau (by conv=>lhs;whnf) zar)))
 refine zi (zd (zb (za ?_)))
 refine s_fa zD ?_
 refine zu yA24 ?_
 refine zI yA32 yS32 ?_
 refine s_bs Form.row [v19.1] yP24 yR32 ?_
 obtain ⟨hk21,F12⟩:=zat F11
 refine zfw Form.row (fun y=>Form.row_len y) hk21 yP24 ?_
 refine s_fa zD ?_
 refine s_stP yS24 ?_
 refine zf (zd (za ?_))
 refine s_mv ?_
 refine s_mv ?_
 obtain ⟨v22,V22,F13⟩:=zc F12
 refine zx [] (zfR fu _ _ _ V22) ?_
 refine s_as ?_
 refine zf (zU ?_)
 exact s_rn (fu,v22,(g11++[v19.1])) ⟨by first | omega | (dsimp only;omega),F13⟩ [(5060,68)]
 refine zA (zq (zp (zr ?_)))
 exact s_jn (fu,g10,g11) ⟨by first | omega | (dsimp only;omega),F9⟩
 clear F6
 rintro ⟨fu,g23,g24⟩ ⟨hl25,F7⟩
 dsimp only at hl25 F7 ⊢
 obtain _ | fu:=fu
 · rw [zfS] at F7;cases F7
 rw [zfS] at F7
 refine zb ?_
 refine zca (α:=Nat × Bool) [73,74,75,76,77,78,79,80,81,82] [] [] (fun a=>[(82,.t (.sc (.bool a.2)))]) (fun a=>[]) (fun a=>a.1≤fu∧zek a.1 g23 g24 a.2=some r) ?_ ?_
 refine za ?_
 refine s_mv ?_
 refine s_mv ?_
 refine ze3 yU9 ?_
 refine s_ge ?_
 refine s_mv ?_
 refine zo _ 77 F7 ?_ ?_<;>intro C26 F8
 iterate 4 refine r_no rfl ?_
 refine zz ?_
 refine zf ?_
 exact s_jn (fu,true) ⟨by first | omega | (dsimp only;omega),F8⟩
 refine s_mv ?_
 refine s_mv ?_
 obtain ⟨v27,V27,F9⟩:=zc F8
 refine s_ixS V27 yU9 ?_
 refine s_ne ?_
 refine zy ?_
 refine zf ?_
 exact s_jn (fu,(decide (v27≠41))) ⟨by first | omega | (dsimp only;omega),F9⟩
 clear F7
 rintro ⟨fu,g28⟩ ⟨hl29,F8⟩
 dsimp only at hl29 F8 ⊢
 obtain _ | fu:=fu
 · rw [zek] at F8;cases F8
 rw [zek] at F8
 refine zn F8 ?_ ?_<;>intro C30 F9
 refine zb (za ?_)
 refine zI yA32 yS32 ?_
 refine zal yS32 ?_
 refine s_as ?_
 refine zf (zd (zh (zg (zm ?_))))
 cases F9
 exact zag [] [5060] (by rw [Tryz.results155];exact (zaE (by conv=>lhs;whnf) (by conv=>lhs;whnf) yA32 yS32 rfl (zau (by conv=>lhs;whnf) zar)))
 refine zi (zd (zb (za ?_)))
 refine zI yA32 yS32 ?_
 refine s_mv ?_
 refine zH rfl ?_
 refine zal yS32 ?_
 refine s_as ?_
 refine zf (zd (zh (zm ?_)))
 cases F9
 exact zag [] [5060] (by rw [Tryz.results155];exact (zaE (by conv=>lhs;whnf) (by conv=>lhs;whnf) yA32 yS32 rfl (zau (by conv=>lhs;whnf) zar)))
theorem m_spec_l1Read_all (fuel:Nat):zfT fuel:=by
 induction fuel using Nat.strongRecOn with
 | _ N ih =>
   cases N with
   | zero=>exact (by intro x1 x2 x3 r h;rw [zgc] at h;cases h)
   | succ fu=>exact m_spec_l1Read_st fu (fun k hk=>(ih k (by omega)))
theorem m_spec_l1Read_ok (fuel:Nat):zfT fuel:=(m_spec_l1Read_all fuel)
def m_spec_l1Letter_AC (fuel:Nat):Prop:=∀ (x1:Int) (x2:Bool) (r:Bool),ze7 fuel x1 x2=some r→AC Tryz.prog 151 [.t (.sc (.int .u8 x1)),.t (.sc (.bool x2))] noOb (.t (.sc (.bool r))) noOb
theorem m_spec_l1Letter_ok (fuel:Nat):m_spec_l1Letter_AC fuel:=by
 intro x1 x2 r F0
 unfold ze7 at F0
 refine AC_i [.t (.sc (.bool r))] Tryz.func151 rfl Tryz.ntmps151 ?_
 intro C hC
 refine zb (za ?_)
 refine s_as ?_
 refine zf (zd (zb (zb (za ?_))))
 refine s_mv ?_
 refine s_ge ?_
 refine s_mv ?_
 refine zo _ 7 F0 ?_ ?_<;>intro C1 F1
 refine s_mv ?_
 refine s_le ?_
 refine zz ?_
 refine s_mv ?_
 refine zo _ 11 F1 ?_ ?_<;>intro C2 F2
 refine r_no rfl (r_no rfl ?_)
 refine zz ?_
 refine s_mv ?_
 refine r_no rfl (r_no rfl ?_)
 refine zz ?_
 refine s_mv ?_
 refine r_no rfl (r_no rfl ?_)
 refine zz ?_
 refine s_mv ?_
 refine r_no rfl (r_no rfl ?_)
 refine zz ?_
 refine s_mv ?_
 refine r_no rfl (r_no rfl ?_)
 refine zz ?_
 refine zf (zd (zK rfl (zb (za ?_))))
 refine s_as ?_
 refine zf (zd (zh (zg (zm ?_))))
 cases F2
 exact zk [] [] Tryz.results151
 refine s_mv ?_
 refine s_eq ?_
 refine zy ?_
 refine s_mv ?_
 refine zo _ 15 F2 ?_ ?_<;>intro C3 F3
 refine r_no rfl (r_no rfl ?_)
 refine zz ?_
 refine s_mv ?_
 refine r_no rfl (r_no rfl ?_)
 refine zz ?_
 refine s_mv ?_
 refine r_no rfl (r_no rfl ?_)
 refine zz ?_
 refine s_mv ?_
 refine r_no rfl (r_no rfl ?_)
 refine zz ?_
 refine zf (zd (zK rfl (zb (za ?_))))
 refine s_as ?_
 refine zf (zd (zh (zg (zm ?_))))
 cases F3
 exact zk [] [] Tryz.results151
 refine s_mv ?_
 refine s_eq ?_
 refine zy ?_
 refine s_mv ?_
 refine zo _ 19 F3 ?_ ?_<;>intro C4 F4
 refine r_no rfl (r_no rfl ?_)
 refine zz ?_
 refine s_mv ?_
 refine r_no rfl (r_no rfl ?_)
 refine zz ?_
 refine s_mv ?_
 refine r_no rfl (r_no rfl ?_)
 refine zz ?_
 refine zf (zd (zK rfl (zb (za ?_))))
 refine s_as ?_
 refine zf (zd (zh (zg (zm ?_))))
 cases F4
 exact zk [] [] Tryz.results151
 refine s_mv ?_
 refine s_eq ?_
 refine zy ?_
 refine s_mv ?_
 refine zo _ 23 F4 ?_ ?_<;>intro C5 F5
 refine r_no rfl (r_no rfl ?_)
 refine zz ?_
 refine s_mv ?_
 refine r_no rfl (r_no rfl ?_)
 refine zz ?_
 refine zf (zd (zK rfl (zb (za ?_))))
 refine s_as ?_
 refine zf (zd (zh (zg (zm ?_))))
 cases F5
 exact zk [] [] Tryz.results151
 refine s_mv ?_
 refine s_eq ?_
 refine zy ?_
 refine s_mv ?_
 refine zo _ 27 F5 ?_ ?_<;>intro C6 F6
 refine r_no rfl (r_no rfl ?_)
 refine zz ?_
 refine zf (zd (zK rfl (zb (za ?_))))
 refine s_as ?_
 refine zf (zd (zh (zg (zm ?_))))
 cases F6
 exact zk [] [] Tryz.results151
 refine s_mv ?_
 refine s_eq ?_
 refine zy ?_
 refine zf (zd ?_)
 refine zn F6 ?_ ?_<;>intro C7 F7
 refine zb (za ?_)
 refine s_as ?_
 refine zf (zd (zh (zg (zm ?_))))
 cases F7
 exact zk [] [] Tryz.results151
 refine zi (zd (zb (za ?_)))
 refine s_mv ?_
 refine za3 ?_
 refine s_mv ?_
 refine zo _ 33 F7 ?_ ?_<;>intro C8 F8
 refine s_mv ?_
 refine s_ge ?_
 refine s_mv ?_
 refine zo _ 36 F8 ?_ ?_<;>intro C9 F9
 refine s_mv ?_
 refine s_le ?_
 refine zz ?_
 refine s_mv ?_
 refine zo _ 40 F9 ?_ ?_<;>intro C10 F10
 refine r_no rfl (r_no rfl ?_)
 refine zz ?_
 refine zz ?_
 refine s_as ?_
 refine zf (zd (zh (zm ?_)))
 cases F10
 exact zk [] [] Tryz.results151
 refine s_mv ?_
 refine s_eq ?_
 refine zy ?_
 refine zz ?_
 refine s_as ?_
 refine zf (zd (zh (zm ?_)))
 cases F10
 exact zk [] [] Tryz.results151
 refine r_no rfl (r_no rfl ?_)
 refine zy ?_
 refine s_mv ?_
 refine s_mv ?_
 refine s_eq ?_
 refine zy ?_
 refine zz ?_
 refine s_as ?_
 refine zf (zd (zh (zm ?_)))
 cases F9
 exact zk [] [] Tryz.results151
 iterate 10 refine r_no rfl ?_
 refine zy ?_
 refine s_as ?_
 refine zf (zd (zh (zm ?_)))
 cases F8
 exact zk [] [] Tryz.results151
 refine r_no rfl (r_no rfl ?_)
 refine zy ?_
 refine s_mv ?_
 refine s_mv ?_
 refine s_eq ?_
 refine zy ?_
 refine s_mv ?_
 refine zo _ 15 F1 ?_ ?_<;>intro C11 F2
 refine r_no rfl (r_no rfl ?_)
 refine zz ?_
 refine s_mv ?_
 refine r_no rfl (r_no rfl ?_)
 refine zz ?_
 refine s_mv ?_
 refine r_no rfl (r_no rfl ?_)
 refine zz ?_
 refine s_mv ?_
 refine r_no rfl (r_no rfl ?_)
 refine zz ?_
 refine zf (zd (zK rfl (zb (za ?_))))
 refine s_as ?_
 refine zf (zd (zh (zg (zm ?_))))
 cases F2
 exact zk [] [] Tryz.results151
 refine s_mv ?_
 refine s_eq ?_
 refine zy ?_
 refine s_mv ?_
 refine zo _ 19 F2 ?_ ?_<;>intro C12 F3
 refine r_no rfl (r_no rfl ?_)
 refine zz ?_
 refine s_mv ?_
 refine r_no rfl (r_no rfl ?_)
 refine zz ?_
 refine s_mv ?_
 refine r_no rfl (r_no rfl ?_)
 refine zz ?_
 refine zf (zd (zK rfl (zb (za ?_))))
 refine s_as ?_
 refine zf (zd (zh (zg (zm ?_))))
 cases F3
 exact zk [] [] Tryz.results151
 refine s_mv ?_
 refine s_eq ?_
 refine zy ?_
 refine s_mv ?_
 refine zo _ 23 F3 ?_ ?_<;>intro C13 F4
 refine r_no rfl (r_no rfl ?_)
 refine zz ?_
 refine s_mv ?_
 refine r_no rfl (r_no rfl ?_)
 refine zz ?_
 refine zf (zd (zK rfl (zb (za ?_))))
 refine s_as ?_
 refine zf (zd (zh (zg (zm ?_))))
 cases F4
 exact zk [] [] Tryz.results151
 refine s_mv ?_
 refine s_eq ?_
 refine zy ?_
 refine s_mv ?_
 refine zo _ 27 F4 ?_ ?_<;>intro C14 F5
 refine r_no rfl (r_no rfl ?_)
 refine zz ?_
 refine zf (zd (zK rfl (zb (za ?_))))
 refine s_as ?_
 refine zf (zd (zh (zg (zm ?_))))
 cases F5
 exact zk [] [] Tryz.results151
 refine s_mv ?_
 refine s_eq ?_
 refine zy ?_
 refine zf (zd ?_)
 refine zn F5 ?_ ?_<;>intro C15 F6
 refine zb (za ?_)
 refine s_as ?_
 refine zf (zd (zh (zg (zm ?_))))
 cases F6
 exact zk [] [] Tryz.results151
 refine zi (zd (zb (za ?_)))
 refine s_mv ?_
 refine za3 ?_
 refine s_mv ?_
 refine zo _ 33 F6 ?_ ?_<;>intro C16 F7
 refine s_mv ?_
 refine s_ge ?_
 refine s_mv ?_
 refine zo _ 36 F7 ?_ ?_<;>intro C17 F8
 refine s_mv ?_
 refine s_le ?_
 refine zz ?_
 refine s_mv ?_
 refine zo _ 40 F8 ?_ ?_<;>intro C18 F9
 refine r_no rfl (r_no rfl ?_)
 refine zz ?_
 refine zz ?_
 refine s_as ?_
 refine zf (zd (zh (zm ?_)))
 cases F9
 exact zk [] [] Tryz.results151
 refine s_mv ?_
 refine s_eq ?_
 refine zy ?_
 refine zz ?_
 refine s_as ?_
 refine zf (zd (zh (zm ?_)))
 cases F9
 exact zk [] [] Tryz.results151
 refine r_no rfl (r_no rfl ?_)
 refine zy ?_
 refine s_mv ?_
 refine s_mv ?_
 refine s_eq ?_
 refine zy ?_
 refine zz ?_
 refine s_as ?_
 refine zf (zd (zh (zm ?_)))
 cases F8
 exact zk [] [] Tryz.results151
 iterate 10 refine r_no rfl ?_
 refine zy ?_
 refine s_as ?_
 refine zf (zd (zh (zm ?_)))
 cases F7
 exact zk [] [] Tryz.results151
def m_spec_NameValid_AC (fuel:Nat):Prop:=∀ (x1:ByteArray) (r:Bool),zet fuel x1=some r→AC Tryz.prog 114 [.t (.sc (.str x1))] noOb (.t (.sc (.bool r))) noOb
theorem m_spec_NameValid_ok (fuel:Nat):m_spec_NameValid_AC fuel:=by
 intro x1 r F0
 unfold zet at F0
 refine AC_i [.t (.sc (.bool r))] Tryz.func114 rfl Tryz.ntmps114 ?_
 intro C hC
 refine zb (za ?_)
 refine s_as ?_
 refine zf (zd (zb (zb (za ?_))))
 refine s_mv ?_
 refine zhn ?_
 refine s_mv ?_
 refine zo _ 6 F0 ?_ ?_<;>intro C1 F1
 refine r_no rfl (r_no rfl ?_)
 refine zz ?_
 refine zf (zd (zK rfl (zb (za ?_))))
 refine s_as ?_
 refine zf (zd (zh (zg (zm ?_))))
 cases F1
 exact zk [] [] Tryz.results114
 refine s_mv ?_
 refine zhn ?_
 refine zy ?_
 refine zf (zd ?_)
 refine zn F1 ?_ ?_<;>intro C2 F2
 refine zb (za ?_)
 refine s_as ?_
 refine zf (zd (zh (zg (zm ?_))))
 cases F2
 exact zk [] [] Tryz.results114
 refine zi (zd (zb (zb (za ?_))))
 refine s_as ?_
 refine zf (zd (zl ?_))
 refine zaX (β:=Int) [2,3,10,11,12,13,14,15,16,17,18,19,20,21,22,23,24,25,26] [] [] (fun a=>[(3,.t (.sc (.int .i64 a.2)))]) (fun a=>[]) (fun a=>a.1≤fuel∧zbE a.1 x1 a.2=some r) (fuel,0) ⟨Nat.le_refl _,F2⟩ ?_
 clear F2
 rintro ⟨fu,g3⟩ ⟨hl4,F3⟩
 dsimp only at hl4 F3 ⊢
 obtain _ | fu:=fu
 · rw [zbE] at F3;cases F3
 rw [zbE] at F3
 refine zb (zb (za ?_))
 refine s_mv ?_
 refine s_mv ?_
 refine ze3 yU9 ?_
 refine s_lt ?_
 refine s_mv ?_
 refine zo _ 14 F3 ?_ ?_<;>intro C5 F4
 refine s_mv ?_
 refine s_le ?_
 refine zz ?_
 refine zf (zd ?_)
 refine zn F4 ?_ ?_<;>intro C6 F5
 refine zi (zd (zb (zl (zb (za ?_)))))
 refine s_mv ?_
 refine s_mv ?_
 obtain ⟨v7,V7,F6⟩:=zc F5
 refine s_ixS V7 yU9 ?_
 refine s_mv ?_
 refine s_eq ?_
 obtain ⟨v8,V8,F7⟩:=zc F6
 refine zx [] (m_spec_l1Letter_ok fu _ _ _ V8) ?_
 refine za3 ?_
 refine zf (zd ?_)
 refine zn F7 ?_ ?_<;>intro C9 F8
 refine zb (za ?_)
 refine s_as ?_
 refine zf (zd (zh (zj (zg (zw (zj (zg (zm ?_))))))))
 cases F8
 exact zk [] [] Tryz.results114
 refine zi (zU (zd (za ?_)))
 refine s_mv ?_
 refine zH rfl ?_
 refine s_as ?_
 refine zf ?_
 exact s_rn (fu,(w64 (g3+1))) ⟨by first | omega | (dsimp only;omega),F8⟩
 refine zA (zq (zp (zr (zd (zb (za ?_))))))
 refine s_mv ?_
 refine ze3 yU9 ?_
 refine s_ge ?_
 refine s_mv ?_
 refine zo _ 30 F5 ?_ ?_<;>intro C10 F6
 refine s_mv ?_
 refine ze3 yU9 ?_
 refine s_le ?_
 refine zz ?_
 refine s_as ?_
 refine zf (zd (zh (zm ?_)))
 cases F6
 exact zk [] [] Tryz.results114
 iterate 3 refine r_no rfl ?_
 refine zy ?_
 refine s_as ?_
 refine zf (zd (zh (zm ?_)))
 cases F6
 exact zk [] [] Tryz.results114
 refine r_no rfl (r_no rfl ?_)
 refine zy ?_
 refine zf (zd (zaP rfl (zA (zq (zp (zr (zd (zb (za ?_)))))))))
 refine s_mv ?_
 refine ze3 yU9 ?_
 refine s_ge ?_
 refine s_mv ?_
 refine zo _ 30 F4 ?_ ?_<;>intro C11 F5
 refine s_mv ?_
 refine ze3 yU9 ?_
 refine s_le ?_
 refine zz ?_
 refine s_as ?_
 refine zf (zd (zh (zm ?_)))
 cases F5
 exact zk [] [] Tryz.results114
 iterate 3 refine r_no rfl ?_
 refine zy ?_
 refine s_as ?_
 refine zf (zd (zh (zm ?_)))
 cases F5
 exact zk [] [] Tryz.results114
def m_spec_l1Scopes_AC (fuel:Nat):Prop:=∀ (x1:(List Int)) (r:Bool),ze6 fuel x1=some r→AC Tryz.prog 115 [.t (.sl (x1.map rI))] noOb (.t (.sc (.bool r))) noOb
theorem m_spec_l1Scopes_ok (fuel:Nat):m_spec_l1Scopes_AC fuel:=by
 intro x1 r F0
 unfold ze6 at F0
 refine AC_i [.t (.sc (.bool r))] Tryz.func115 rfl Tryz.ntmps115 ?_
 intro C hC
 refine zb (za ?_)
 refine s_as ?_
 refine zf (zd (zb (zb (za ?_))))
 refine s_as ?_
 refine zf (zd (zl ?_))
 refine zaX (β:=Int) [2,3,4,5,6,7,8,9,10,11,12,13,14,15,16,17,18,19,20,21,22,23,24,25,26,27,28,29,30,31,32,33,34,35,36,37,38,39,40,41] [] [] (fun a=>[(3,.t (.sc (.int .i64 a.2)))]) (fun a=>[]) (fun a=>a.1≤fuel∧zbt a.1 x1 a.2=some r) (fuel,0) ⟨Nat.le_refl _,F0⟩ ?_
 clear F0
 rintro ⟨fu,g1⟩ ⟨hl2,F1⟩
 dsimp only at hl2 F1 ⊢
 obtain _ | fu:=fu
 · rw [zbt] at F1;cases F1
 rw [zbt] at F1
 refine zb (zb (za ?_))
 refine s_mv ?_
 refine s_mv ?_
 refine zF yU27 ?_
 refine s_lt ?_
 refine s_mv ?_
 refine zo _ 8 F1 ?_ ?_<;>intro C3 F2
 refine s_mv ?_
 refine s_le ?_
 refine zz ?_
 refine zf (zd ?_)
 refine zn F2 ?_ ?_<;>intro C4 F3
 refine zi (zd (zb (zl (zb ?_))))
 refine zZ yMix (by kernel_rfl) ?_
 refine s_mv ?_
 refine s_mv ?_
 obtain ⟨v5,V5,F4⟩:=zc F3
 refine zR rI V5 rfl yE27 ?_
 refine zu yA3 ?_
 refine s_lt ?_
 refine s_mv ?_
 refine zo _ 19 F4 ?_ ?_<;>intro C6 F5
 iterate 5 refine r_no rfl ?_
 refine zz ?_
 refine s_mv ?_
 iterate 14 refine r_no rfl ?_
 refine zz ?_
 refine zam (by kernel_rfl) ?_
 refine zd (zK rfl (zb (za ?_)))
 refine s_as ?_
 refine zf (zd (zh (zj (zg (zw (zj (zg (zm ?_))))))))
 cases F5
 exact zk [] [] Tryz.results115
 refine s_mv ?_
 refine s_mv ?_
 obtain ⟨v7,V7,F6⟩:=zc F5
 refine zR rI V7 rfl yE27 ?_
 refine zu yA3 ?_
 refine s_gt ?_
 refine zy ?_
 refine s_mv ?_
 refine zo _ 26 F6 ?_ ?_<;>intro C8 F7
 iterate 14 refine r_no rfl ?_
 refine zz ?_
 refine zam (by kernel_rfl) ?_
 refine zd (zK rfl (zb (za ?_)))
 refine s_as ?_
 refine zf (zd (zh (zj (zg (zw (zj (zg (zm ?_))))))))
 cases F7
 exact zk [] [] Tryz.results115
 refine s_mv ?_
 refine s_gt ?_
 refine s_mv ?_
 refine zo _ 29 F7 ?_ ?_<;>intro C9 F8
 refine s_mv ?_
 refine s_mv ?_
 obtain ⟨v10,V10,F9⟩:=zc F8
 refine zR rI V10 rfl yE27 ?_
 refine zu yA3 ?_
 refine s_mv ?_
 refine s_mv ?_
 refine s_sub rfl ?_
 obtain ⟨v11,V11,F10⟩:=zc F9
 refine zR rI V11 rfl yE27 ?_
 refine zu yA3 ?_
 refine s_le ?_
 refine zz ?_
 refine zy ?_
 refine zam (by kernel_rfl) ?_
 refine zd ?_
 refine zn F10 ?_ ?_<;>intro C12 F11
 refine zb (za ?_)
 refine s_as ?_
 refine zf (zd (zh (zj (zg (zw (zj (zg (zm ?_))))))))
 cases F11
 exact zk [] [] Tryz.results115
 refine zi (zU (zd (za ?_)))
 refine s_mv ?_
 refine zH rfl ?_
 refine s_as ?_
 refine zf ?_
 exact s_rn (fu,(w64 (g1+1))) ⟨by first | omega | (dsimp only;omega),F11⟩
 iterate 10 refine r_no rfl ?_
 refine zy ?_
 refine zy ?_
 refine zam (by kernel_rfl) ?_
 refine zd (zaP rfl (zi (zU (zd (za ?_)))))
 refine s_mv ?_
 refine zH rfl ?_
 refine s_as ?_
 refine zf ?_
 exact s_rn (fu,(w64 (g1+1))) ⟨by first | omega | (dsimp only;omega),F8⟩
 refine zA (zq (zp (zr (zd (zb (za ?_))))))
 refine s_mv ?_
 refine zF yU27 ?_
 refine s_le ?_
 refine s_as ?_
 refine zf (zd (zh (zm ?_)))
 cases F3
 exact zk [] [] Tryz.results115
 refine r_no rfl (r_no rfl ?_)
 refine zy ?_
 refine zf (zd (zaP rfl (zA (zq (zp (zr (zd (zb (za ?_)))))))))
 refine s_mv ?_
 refine zF yU27 ?_
 refine s_le ?_
 refine s_as ?_
 refine zf (zd (zh (zm ?_)))
 cases F2
 exact zk [] [] Tryz.results115
def zgG (fuel:Nat):Prop:=∀ (x1:Form) (x2:Int) (r:Bool),ze8 fuel x1 x2=some r→AC Tryz.prog 101 [.ag [.t (.sc (.int .i64 x1.kind)),.t (.sc (.str x1.name)),.t (.sc (.int .i64 x1.n)),.t (.sl (x1.scopes.map rI)),.t (.sl (x1.kids.map Form.row))],.t (.sc (.int .i64 x2))] noOb (.t (.sc (.bool r))) noOb
theorem m_spec_l1Is_st (fu:Nat) (ih_m_spec_l1Is:∀ k,k≤fu→zgG k):zgG (fu+1):=by
 intro x1 x2 r F0
 rw [ze8] at F0
 refine AC_i [.t (.sc (.bool r))] Tryz.func101 rfl Tryz.ntmps101 ?_
 intro C hC
 refine zb (za ?_)
 refine za7 ?_
 refine s_as ?_
 refine zf (zd (zb (zb (za ?_))))
 refine s_mv ?_
 refine s_eq ?_
 refine zf (zd ?_)
 refine zn F0 ?_ ?_<;>intro C1 F1
 refine zb (za ?_)
 refine s_as ?_
 refine zf (zd (zh (zg (zm ?_))))
 cases F1
 exact zk [] [] Tryz.results101
 refine zi (zd (zb (zb (za ?_))))
 refine s_fa zcN ?_
 refine zu yA3 ?_
 refine zf (zd (zl (zb (za ?_))))
 refine s_eq ?_
 refine s_as ?_
 refine zf (zd ?_)
 refine zn F1 ?_ ?_<;>intro C2 F2
 refine zb (za ?_)
 refine s_fa zcB ?_
 refine zu yA9 ?_
 obtain ⟨v3,V3,F3⟩:=zc F2
 refine zx [] (m_spec_NameValid_ok fu _ _ V3) ?_
 refine s_mv ?_
 refine zo _ 15 F3 ?_ ?_<;>intro C4 F4
 refine s_fa zgV ?_
 refine zu yA3 ?_
 refine s_eq ?_
 refine zz ?_
 refine s_mv ?_
 refine zo _ 20 F4 ?_ ?_<;>intro C5 F5
 refine s_fa zgu ?_
 refine zu yA27 ?_
 obtain ⟨v6,V6,F6⟩:=zc F5
 refine zx [] (m_spec_l1Scopes_ok fu _ _ V6) ?_
 refine zz ?_
 refine s_mv ?_
 refine zo _ 25 F6 ?_ ?_<;>intro C7 F7
 refine s_fa zD ?_
 refine zu yA24 ?_
 refine zF yU24 ?_
 refine s_eq ?_
 refine zz ?_
 refine s_as ?_
 refine zf (zd (zh (zj (zg (zm ?_)))))
 cases F7
 exact zk [] [] Tryz.results101
 iterate 4 refine r_no rfl ?_
 refine zy ?_
 refine s_as ?_
 refine zf (zd (zh (zj (zg (zm ?_)))))
 cases F7
 exact zk [] [] Tryz.results101
 iterate 3 refine r_no rfl ?_
 refine zy ?_
 refine s_mv ?_
 iterate 4 refine r_no rfl ?_
 refine zy ?_
 refine s_as ?_
 refine zf (zd (zh (zj (zg (zm ?_)))))
 cases F5
 exact zk [] [] Tryz.results101
 iterate 3 refine r_no rfl ?_
 refine zy ?_
 refine s_mv ?_
 iterate 3 refine r_no rfl ?_
 refine zy ?_
 refine s_mv ?_
 iterate 4 refine r_no rfl ?_
 refine zy ?_
 refine s_as ?_
 refine zf (zd (zh (zj (zg (zm ?_)))))
 cases F4
 exact zk [] [] Tryz.results101
 refine zb (za ?_)
 refine s_eq ?_
 refine s_as ?_
 refine zf (zd ?_)
 refine zn F2 ?_ ?_<;>intro C8 F3
 refine zb (za ?_)
 refine s_fa zcB ?_
 refine zu yA9 ?_
 refine zhn ?_
 refine s_mv ?_
 refine zo _ 36 F3 ?_ ?_<;>intro C9 F4
 refine s_fa zgV ?_
 refine zu yA3 ?_
 refine s_ge ?_
 refine zz ?_
 refine s_mv ?_
 refine zo _ 41 F4 ?_ ?_<;>intro C10 F5
 refine s_fa zgV ?_
 refine zu yA3 ?_
 refine s_le ?_
 refine zz ?_
 refine s_mv ?_
 refine zo _ 46 F5 ?_ ?_<;>intro C11 F6
 refine s_fa zgu ?_
 refine zu yA27 ?_
 refine zF yU27 ?_
 refine s_eq ?_
 refine zz ?_
 refine s_mv ?_
 refine zo _ 52 F6 ?_ ?_<;>intro C12 F7
 refine s_fa zD ?_
 refine zu yA24 ?_
 refine zF yU24 ?_
 refine s_eq ?_
 refine zz ?_
 refine s_as ?_
 refine zf (zd (zh (zj (zg (zm ?_)))))
 cases F7
 exact zk [] [] Tryz.results101
 iterate 4 refine r_no rfl ?_
 refine zy ?_
 refine s_as ?_
 refine zf (zd (zh (zj (zg (zm ?_)))))
 cases F7
 exact zk [] [] Tryz.results101
 iterate 4 refine r_no rfl ?_
 refine zy ?_
 refine s_mv ?_
 iterate 4 refine r_no rfl ?_
 refine zy ?_
 refine s_as ?_
 refine zf (zd (zh (zj (zg (zm ?_)))))
 cases F6
 exact zk [] [] Tryz.results101
 iterate 3 refine r_no rfl ?_
 refine zy ?_
 refine s_mv ?_
 iterate 4 refine r_no rfl ?_
 refine zy ?_
 refine s_mv ?_
 iterate 4 refine r_no rfl ?_
 refine zy ?_
 refine s_as ?_
 refine zf (zd (zh (zj (zg (zm ?_)))))
 cases F5
 exact zk [] [] Tryz.results101
 iterate 3 refine r_no rfl ?_
 refine zy ?_
 refine s_mv ?_
 iterate 3 refine r_no rfl ?_
 refine zy ?_
 refine s_mv ?_
 iterate 4 refine r_no rfl ?_
 refine zy ?_
 refine s_mv ?_
 iterate 4 refine r_no rfl ?_
 refine zy ?_
 refine s_as ?_
 refine zf (zd (zh (zj (zg (zm ?_)))))
 cases F4
 exact zk [] [] Tryz.results101
 refine zi (zU (zd (zb (zb (za ?_)))))
 refine s_fa zcN ?_
 refine zu yA3 ?_
 refine s_ne ?_
 refine s_mv ?_
 refine zo _ 61 F3 ?_ ?_<;>intro C13 F4
 iterate 3 refine r_no rfl ?_
 refine zz ?_
 refine s_mv ?_
 iterate 3 refine r_no rfl ?_
 refine zz ?_
 refine s_mv ?_
 iterate 4 refine r_no rfl ?_
 refine zz ?_
 refine zf (zd (zK rfl (zb (za ?_))))
 refine s_as ?_
 refine zf (zd (zh (zg (zm ?_))))
 cases F4
 exact zk [] [] Tryz.results101
 refine s_fa zcB ?_
 refine zu yA9 ?_
 refine s_neS ?_
 refine zy ?_
 refine s_mv ?_
 refine zo _ 66 F4 ?_ ?_<;>intro C14 F5
 iterate 3 refine r_no rfl ?_
 refine zz ?_
 refine s_mv ?_
 iterate 4 refine r_no rfl ?_
 refine zz ?_
 refine zf (zd (zK rfl (zb (za ?_))))
 refine s_as ?_
 refine zf (zd (zh (zg (zm ?_))))
 cases F5
 exact zk [] [] Tryz.results101
 refine s_fa zgV ?_
 refine zu yA3 ?_
 refine s_ne ?_
 refine zy ?_
 refine s_mv ?_
 refine zo _ 71 F5 ?_ ?_<;>intro C15 F6
 iterate 4 refine r_no rfl ?_
 refine zz ?_
 refine zf (zd (zK rfl (zb (za ?_))))
 refine s_as ?_
 refine zf (zd (zh (zg (zm ?_))))
 cases F6
 exact zk [] [] Tryz.results101
 refine s_fa zgu ?_
 refine zu yA27 ?_
 refine zF yU27 ?_
 refine s_ne ?_
 refine zy ?_
 refine zf (zd ?_)
 refine zn F6 ?_ ?_<;>intro C16 F7
 refine zb (za ?_)
 refine s_as ?_
 refine zf (zd (zh (zg (zm ?_))))
 cases F7
 exact zk [] [] Tryz.results101
 refine zi (zd (zb (zb (za ?_))))
 refine s_as ?_
 refine zf (zd (zl ?_))
 refine zaX (β:=Int) [4,5,77,78,79,80,81,82,83,84,85,86,87,88,89,90,91,92] [] [] (fun a=>[(5,.t (.sc (.int .i64 a.2)))]) (fun a=>[]) (fun a=>a.1≤fu∧zdK a.1 x1 x2 a.2=some r∧0≤a.2) (fu,0) ⟨Nat.le_refl _,F7,by simp⟩ ?_
 clear F7
 rintro ⟨fu,g17⟩ ⟨hl18,F8,hn_g17⟩
 dsimp only at hl18 F8 hn_g17 ⊢
 obtain _ | fu:=fu
 · rw [zdK] at F8;cases F8
 rw [zdK] at F8
 refine zb (zb (za ?_))
 refine s_mv ?_
 refine s_fa zD ?_
 refine zu yA24 ?_
 refine zF yU24 ?_
 refine s_lt ?_
 refine zf (zd ?_)
 refine zn F8 ?_ ?_<;>intro C19 F9
 refine zN 79 (fun B20=>?_)
 refine zi (zd (zb (zl (zb (za ?_)))))
 refine s_fa zD ?_
 refine zu yA24 ?_
 refine s_mv ?_
 obtain ⟨v21,V21,F10⟩:=zc F9
 refine zR Form.row V21 (Form.row_eq _) yE24 ?_
 refine zak yA32 yS32 ?_
 refine s_mv ?_
 refine s_sub rfl ?_
 obtain ⟨v22,V22,F11⟩:=zc F10
 refine zx [] (ih_m_spec_l1Is fu (by omega) _ _ _ V22) ?_
 refine za3 ?_
 refine zf (zd ?_)
 refine zn F11 ?_ ?_<;>intro C23 F12
 refine zb (za ?_)
 refine s_as ?_
 refine zf (zd (zh (zj (zg (zw (zj (zg (zm ?_))))))))
 cases F12
 exact zk [] [] Tryz.results101
 refine zi (zU (zd (za ?_)))
 refine s_mv ?_
 refine zH (zaq C19 B20 hn_g17) ?_
 refine s_as ?_
 refine zf ?_
 exact s_rn (fu,(g17+1)) ⟨by first | omega | (dsimp only;omega),F12,by first | omega | (dsimp only;omega)⟩
 refine zA (zq (zp (zr (zd (zb (za ?_))))))
 refine s_as ?_
 refine zf (zd (zh (zm ?_)))
 cases F9
 exact zk [] [] Tryz.results101
theorem m_spec_l1Is_all (fuel:Nat):zgG fuel:=by
 induction fuel using Nat.strongRecOn with
 | _ N ih =>
   cases N with
   | zero=>exact (by intro x1 x2 r h;rw [ze8] at h;cases h)
   | succ fu=>exact m_spec_l1Is_st fu (fun k hk=>(ih k (by omega)))
theorem m_spec_l1Is_ok (fuel:Nat):zgG fuel:=(m_spec_l1Is_all fuel)
def zfo (fuel:Nat):Prop:=∀ (x1:Form) (r:Int),zdL fuel x1=some r→AC Tryz.prog 100 [.ag [.t (.sc (.int .i64 x1.kind)),.t (.sc (.str x1.name)),.t (.sc (.int .i64 x1.n)),.t (.sl (x1.scopes.map rI)),.t (.sl (x1.kids.map Form.row))]] noOb (.t (.sc (.int .i64 r))) noOb
theorem m_spec_l1Count_st (fu:Nat) (ih_m_spec_l1Count:∀ k,k≤fu→zfo k):zfo (fu+1):=by
 intro x1 r F0
 rw [zdL] at F0
 refine AC_i [.t (.sc (.int .i64 r))] Tryz.func100 rfl Tryz.ntmps100 ?_
 intro C hC
 refine zb (za ?_)
 refine za7 ?_
 refine s_as ?_
 refine zf (zd (zb (za ?_)))
 refine s_as ?_
 refine zf (zd (zb (zb (za ?_))))
 refine s_as ?_
 refine zf (zd (zl ?_))
 refine zaX (β:=Int × Int) [3,4,5,6,7,8,9,10,11,12,13,14,15,16,17,18,19] [] [] (fun a=>[(3,.t (.sc (.int .i64 a.2.1))),(4,.t (.sc (.int .i64 a.2.2)))]) (fun a=>[]) (fun a=>a.1≤fu∧zb5 a.1 x1 a.2.1 a.2.2=some r∧0≤a.2.2) (fu,1,0) ⟨Nat.le_refl _,F0,by simp⟩ ?_
 clear F0
 rintro ⟨fu,g1,g2⟩ ⟨hl3,F1,hn_g2⟩
 dsimp only at hl3 F1 hn_g2 ⊢
 obtain _ | fu:=fu
 · rw [zb5] at F1;cases F1
 rw [zb5] at F1
 refine zb (zb (za ?_))
 refine s_mv ?_
 refine s_fa zD ?_
 refine zu yA24 ?_
 refine zF yU24 ?_
 refine s_lt ?_
 refine zf (zd ?_)
 refine zn F1 ?_ ?_<;>intro C4 F2
 refine zN 7 (fun B5=>?_)
 refine zi (zd (zb (zl (za ?_))))
 refine s_mv ?_
 refine s_fa zD ?_
 refine zu yA24 ?_
 refine s_mv ?_
 obtain ⟨v6,V6,F3⟩:=zc F2
 refine zR Form.row V6 (Form.row_eq _) yE24 ?_
 refine zak yA32 yS32 ?_
 obtain ⟨v7,V7,F4⟩:=zc F3
 refine zx [] (ih_m_spec_l1Count fu (by omega) _ _ V7) ?_
 refine zH rfl ?_
 refine s_as ?_
 refine zf (zU (zd (za ?_)))
 refine s_mv ?_
 refine zH (zaq C4 B5 hn_g2) ?_
 refine s_as ?_
 refine zf ?_
 exact s_rn (fu,(w64 (g1+v7)),(g2+1)) ⟨by first | omega | (dsimp only;omega),F4,by first | omega | (dsimp only;omega)⟩
 refine zA (zq (zp (zr (zd (zb (za ?_))))))
 refine s_mv ?_
 refine s_as ?_
 refine zf (zd (zh (zm ?_)))
 cases F2
 exact zk [] [] Tryz.results100
theorem m_spec_l1Count_all (fuel:Nat):zfo fuel:=by
 induction fuel using Nat.strongRecOn with
 | _ N ih =>
   cases N with
   | zero=>exact (by intro x1 r h;rw [zdL] at h;cases h)
   | succ fu=>exact m_spec_l1Count_st fu (fun k hk=>(ih k (by omega)))
theorem m_spec_l1Count_ok (fuel:Nat):zfo fuel:=(m_spec_l1Count_all fuel)
def m_spec_FormValid_AC (fuel:Nat):Prop:=∀ (x1:Form) (r:Bool),zb1 fuel x1=some r→AC Tryz.prog 43 [.ag [.t (.sc (.int .i64 x1.kind)),.t (.sc (.str x1.name)),.t (.sc (.int .i64 x1.n)),.t (.sl (x1.scopes.map rI)),.t (.sl (x1.kids.map Form.row))]] noOb (.t (.sc (.bool r))) noOb
theorem zdm (fuel:Nat):m_spec_FormValid_AC fuel:=by
 intro x1 r F0
 unfold zb1 at F0
 refine AC_i [.t (.sc (.bool r))] Tryz.func43 rfl Tryz.ntmps43 ?_
 intro C hC
 refine zb (za ?_)
 refine za7 ?_
 refine s_as ?_
 refine zf (zd (zb (za ?_)))
 refine zI yA32 yS32 ?_
 obtain ⟨v1,V1,F1⟩:=zc F0
 refine zx [] (m_spec_l1Is_ok fuel _ _ _ V1) ?_
 refine s_mv ?_
 refine zo _ 5 F1 ?_ ?_<;>intro C2 F2
 refine zI yA32 yS32 ?_
 obtain ⟨v3,V3,F3⟩:=zc F2
 refine zx [] (m_spec_l1Count_ok fuel _ _ V3) ?_
 refine s_le ?_
 refine zz ?_
 refine s_as ?_
 refine zf (zd (zh (zm ?_)))
 cases F3
 exact zk [] [] Tryz.results43
 iterate 3 refine r_no rfl ?_
 refine zy ?_
 refine s_as ?_
 refine zf (zd (zh (zm ?_)))
 cases F2
 exact zk [] [] Tryz.results43
def m_spec_ParseForm_AC (fuel:Nat):Prop:=∀ (x1:ByteArray) (r:(Form × Bool)),zgT fuel x1=some r→AC Tryz.prog 126 [.t (.sc (.str x1))] noOb (.tp [.ag [.t (.sc (.int .i64 r.1.kind)),.t (.sc (.str r.1.name)),.t (.sc (.int .i64 r.1.n)),.t (.sl (r.1.scopes.map rI)),.t (.sl (r.1.kids.map Form.row))],.t (.sc (.bool r.2))]) noOb
theorem m_spec_ParseForm_ok (fuel:Nat):m_spec_ParseForm_AC fuel:=by
 intro x1 r F0
 unfold zgT at F0
 refine AC_i [.ag [.t (.sc (.int .i64 r.1.kind)),.t (.sc (.str r.1.name)),.t (.sc (.int .i64 r.1.n)),.t (.sl (r.1.scopes.map rI)),.t (.sl (r.1.kids.map Form.row))],.t (.sc (.bool r.2))] Tryz.func126 rfl Tryz.ntmps126 ?_
 intro C hC
 refine zb (za ?_)
 refine z4 yZ32 ?_
 refine s_as ?_
 refine zf (zd (zb (za ?_)))
 refine s_mv ?_
 obtain ⟨v1,V1,F1⟩:=zc F0
 refine zx [] (m_spec_l1Read_ok fuel _ _ _ _ V1) ?_
 refine s_mv ?_
 refine zcp ?_
 refine zcp ?_
 refine z4 yZ32 ?_
 refine zal yS32 ?_
 refine s_as ?_
 refine zf (zd (zb (zb (za ?_))))
 refine s_mv ?_
 refine s_lt ?_
 refine s_mv ?_
 refine zo _ 13 F1 ?_ ?_<;>intro C2 F2
 iterate 6 refine r_no rfl ?_
 refine zz ?_
 refine s_mv ?_
 iterate 3 refine r_no rfl ?_
 refine zz ?_
 refine zf (zd (zK rfl (zb (za ?_))))
 refine zgQ yZ32 yL32 ?_
 refine zal yS32 ?_
 refine s_as ?_
 refine zf (zd (zh (zg (zm ?_))))
 cases F2
 exact zag [] [] (by rw [Tryz.results126];exact (zaE (by conv=>lhs;whnf) (by conv=>lhs;whnf) yA32 yS32 rfl (zau (by conv=>lhs;whnf) zar)))
 refine s_mv ?_
 refine s_mv ?_
 obtain ⟨v3,V3,F3⟩:=zc F2
 refine zx [] (zfR fuel _ _ _ V3) ?_
 refine s_mv ?_
 refine ze3 yU9 ?_
 refine s_ne ?_
 refine zy ?_
 refine s_mv ?_
 refine zo _ 21 F3 ?_ ?_<;>intro C4 F4
 iterate 3 refine r_no rfl ?_
 refine zz ?_
 refine zf (zd (zK rfl (zb (za ?_))))
 refine zgQ yZ32 yL32 ?_
 refine zal yS32 ?_
 refine s_as ?_
 refine zf (zd (zh (zg (zm ?_))))
 cases F4
 exact zag [] [] (by rw [Tryz.results126];exact (zaE (by conv=>lhs;whnf) (by conv=>lhs;whnf) yA32 yS32 rfl (zau (by conv=>lhs;whnf) zar)))
 refine zI yA32 yS32 ?_
 obtain ⟨v5,V5,F5⟩:=zc F4
 refine zx [] (zdm fuel _ _ V5) ?_
 refine za3 ?_
 refine zy ?_
 refine zf (zd ?_)
 refine zn F5 ?_ ?_<;>intro C6 F6
 refine zb (za ?_)
 refine zgQ yZ32 yL32 ?_
 refine zal yS32 ?_
 refine s_as ?_
 refine zf (zd (zh (zg (zm ?_))))
 cases F6
 exact zag [] [] (by rw [Tryz.results126];exact (zaE (by conv=>lhs;whnf) (by conv=>lhs;whnf) yA32 yS32 rfl (zau (by conv=>lhs;whnf) zar)))
 refine zi (zd (zb (za ?_)))
 refine zI yA32 yS32 ?_
 refine zal yS32 ?_
 refine s_as ?_
 refine zf (zd (zh (zm ?_)))
 cases F6
 exact zag [] [] (by rw [Tryz.results126];exact (zaE (by conv=>lhs;whnf) (by conv=>lhs;whnf) yA32 yS32 rfl (zau (by conv=>lhs;whnf) zar)))
end Go.Abs
