/- A part of the proof: what the functions that the law calls answer, as pure values. -/
import Derived.Test.YtcllpfmjggkpnaaGreatK87b9047474df
import Derived.Test.YtcllpfmjggkpnaaGreatK91fcc0fd7672
import Derived.Test.YtcllpfmjggkpnaaGreatKb799e7f6f25f
import Derived.Test.YtcllpfmjggkpnaaGreatKa8136476e481
import Derived.Test.YtcllpfmjggkpnaaGreatK1df75f79e59f
import Derived.Test.YtcllpfmjggkpnaaGreatK9007fc86218d
set_option linter.unusedSimpArgs false
set_option linter.unusedVariables false
set_option maxRecDepth 100000
set_option maxHeartbeats 4000000
namespace Go.Abs
open Go.Proofs
def zcK (fuel:Nat):Prop:=∀ (x1:Form) (o1:Bool) (o2:Hit) (r:Bool),zaU fuel x1 o1 o2=some r→AC Tryz.prog 94 [.ag [.t (.sc (.int .i64 x1.kind)),.t (.sc (.str x1.name)),.t (.sc (.int .i64 x1.n)),.t (.sl (x1.scopes.map rI)),.t (.sl (x1.kids.map Form.row))],.fn 95 [.rf 9000 0,.rf 9001 0]] (objs [(9000,.box [.t (.sc (.bool o1))]),(9001,.box [.t (.sc (.int .i64 o2.name.kind)),.t (.sc (.str o2.name.name)),.t (.sc (.int .i64 o2.name.n)),.t (.sl (o2.name.scopes.map rI)),.t (.sl (o2.name.kids.map Form.row)),.t (.sc (.int .i64 o2.depth)),.t (.sc (.int .i64 o2.one.kind)),.t (.sc (.str o2.one.name)),.t (.sc (.int .i64 o2.one.n)),.t (.sl (o2.one.scopes.map rI)),.t (.sl (o2.one.kids.map Form.row)),.t (.sl (o2.many.map Hit.row))])]) (.tp []) (objs [(9000,.box [.t (.sc (.bool r))]),(9001,.box [.t (.sc (.int .i64 o2.name.kind)),.t (.sc (.str o2.name.name)),.t (.sc (.int .i64 o2.name.n)),.t (.sl (o2.name.scopes.map rI)),.t (.sl (o2.name.kids.map Form.row)),.t (.sc (.int .i64 o2.depth)),.t (.sc (.int .i64 o2.one.kind)),.t (.sc (.str o2.one.name)),.t (.sc (.int .i64 o2.one.n)),.t (.sl (o2.one.scopes.map rI)),.t (.sl (o2.one.kids.map Form.row)),.t (.sl (o2.many.map Hit.row))])])
theorem zhm (fu:Nat) (ih_m_impl_eachForm_fill_2:∀ k,k≤fu→zcK k):zcK (fu+1):=by
 intro x1 o1 o2 r F0
 rw [zaU] at F0
 refine AC_i [] Tryz.func94 rfl Tryz.ntmps94 ?_
 intro C hC
 refine zb (za ?_)
 refine za9 ?_
 refine zf (zd (zb (za ?_)))
 refine s_mv ?_
 refine zJ yA27 yS27 ?_
 obtain ⟨v1,V1,F1⟩:=zc F0
 refine zU [(9000,9000),(9001,9001)] [] _ _ (m_impl_fill_2_ok fu _ _ _ _ V1) ?_
 refine zf (zd (zb (za ?_)))
 refine s_fa zH ?_
 refine zu yA25 ?_
 refine zF yU25 ?_
 refine s_mv ?_
 refine zf (zd (zk ?_))
 refine zbk (β:=Int × Bool) [5,12,13,14,15,16,17,18,19] [9000] [5] (fun a=>[(12,.t (.sc (.int .i64 a.2.1)))]) (fun a=>[(9000,.box [.t (.sc (.bool a.2.2))])]) (fun a=>a.1≤fu∧zaD a.1 x1 o2 a.2.1 a.2.2=some r∧0≤a.2.1) (fu,0,v1) ⟨Nat.le_refl _,F1,by simp⟩ ?_
 clear F1
 rintro ⟨fu,g2,g3⟩ ⟨hl4,F2,hn_g2⟩
 dsimp only at hl4 F2 hn_g2 ⊢
 obtain _ | fu:=fu
 · rw [zaD] at F2;cases F2
 rw [zaD] at F2
 refine zb (za ?_)
 refine s_lt ?_
 refine zf (zd (zb ?_))
 refine zm F2 ?_ ?_<;>intro C5 F3
 refine zW 10 (fun B6=>?_)
 refine zi (zd (zb (zk (zb (za ?_)))))
 obtain ⟨v7,V7,F4⟩:=zc F3
 refine zN Form.row V7 (Form.row_eq _) yE25 ?_
 refine zas yA27 yS27 ?_
 refine zR yZ27 ?_
 refine zac yS27 ?_
 refine zf (zd (za ?_))
 refine zJ yA27 yS27 ?_
 refine s_mv ?_
 obtain ⟨v8,V8,F5⟩:=zc F4
 refine zU [(9000,9000),(9001,9001)] [] _ _ (ih_m_impl_eachForm_fill_2 fu (by omega) _ _ _ _ V8) ?_
 refine zf (zaa (zd (za ?_)))
 refine zO (zaJ C5 B6 hn_g2) ?_
 refine s_mv ?_
 refine zf ?_
 exact s_rn (fu,(g2+1),v8) ⟨by first | omega | (dsimp only;omega),F5,by first | omega | (dsimp only;omega)⟩
 refine zA (zq (zp (zr (zhD ?_))))
 cases F3
 exact zl _ [] Tryz.results94
theorem zha (fuel:Nat):zcK fuel:=by
 induction fuel using Nat.strongRecOn with
 | _ N ih =>
   cases N with
   | zero=>exact (by intro x1 o1 o2 r h;rw [zaU] at h;cases h)
   | succ fu=>exact zhm fu (fun k hk=>(ih k (by omega)))
theorem zhn (fuel:Nat):zcK fuel:=(zha fuel)
def m_slices_Clone_Hit_AC (fuel:Nat):Prop:=∀ (x1:(List Hit)) (r:(List Hit)),zeN fuel x1=some r→AC Tryz.prog 96 [.t (.sl (x1.map Hit.row))] (objs []) (.ar 9200) (objs [(9200,.arr (r.map Hit.row) 38 true)])
theorem m_slices_Clone_Hit_ok (fuel:Nat):m_slices_Clone_Hit_AC fuel:=by
 intro x1 r F0
 unfold zeN at F0
 refine AC_i [.ar 9200] Tryz.func96 rfl Tryz.ntmps96 ?_
 intro C hC
 refine awp_nil 0 (fun hz=>?_) ?_
 replace hz:=List.map_eq_nil_iff.mp hz;subst hz;obtain ⟨_,F1⟩:=zab F0
 refine zb (za ?_)
 refine s_as ?_
 refine zf (zd (zb (zb (za ?_))))
 refine s_mv ?_
 refine s_nil yU30 ?_
 refine zf (zd (zM rfl ?_))
 refine zgB 0 ?_
 refine zgB 3 ?_
 refine zb (za ?_)
 refine s_as ?_
 refine zf (zd ?_)
 refine awp_own 2 9200 38 yI38.choose_spec ?_
 refine zh (zg (zn ?_))
 cases F1
 exact zl _ [] Tryz.results96
 refine zb (za ?_)
 refine s_as ?_
 refine zf (zd (zb (zb (za ?_))))
 refine s_mv ?_
 refine s_nil yU30 ?_
 refine zf (zd (zaS rfl ?_))
 refine zgB 0 ?_
 refine zgB 3 ?_
 refine zi (zd (zb (za ?_)))
 refine s_bs Hit.row ([]:List Hit) yP30 yR38 ?_
 refine s_mv ?_
 obtain ⟨hk1,F1⟩:=zab F0
 refine zd4 Hit.row (fun y=>Hit.row_len y) hk1 yP30 ?_
 refine s_as ?_
 refine zf (zd ?_)
 refine zdl 2 7 9200 (by conv=>lhs;whnf) (by conv=>lhs;whnf) rfl ?_
 refine zh (zn ?_)
 cases F1
 exact zl _ [] Tryz.results96
def zfq (fuel:Nat):Prop:=∀ (x1:Form) (x2:(List Hit)) (r:(Form × Bool)),zdS fuel x1 x2=some r→AC Tryz.prog 38 [.ag [.t (.sc (.int .i64 x1.kind)),.t (.sc (.str x1.name)),.t (.sc (.int .i64 x1.n)),.t (.sl (x1.scopes.map rI)),.t (.sl (x1.kids.map Form.row))],.t (.sl (x2.map Hit.row))] noOb (.tp [.ag [.t (.sc (.int .i64 r.1.kind)),.t (.sc (.str r.1.name)),.t (.sc (.int .i64 r.1.n)),.t (.sl (r.1.scopes.map rI)),.t (.sl (r.1.kids.map Form.row))],.t (.sc (.bool r.2))]) noOb
def zfG (fuel:Nat):Prop:=∀ (x1:Form) (x2:(List Hit)) (o1:Int) (o2:Form) (r:(Bool × Int × Form)),zdK fuel x1 x2 o1 o2=some r→AC Tryz.prog 92 [.ag [.t (.sc (.int .i64 x1.kind)),.t (.sc (.str x1.name)),.t (.sc (.int .i64 x1.n)),.t (.sl (x1.scopes.map rI)),.t (.sl (x1.kids.map Form.row))],.t (.sl (x2.map Hit.row)),.rf 9000 0,.rf 9001 0] (objs [(9000,.box [.t (.sc (.int .i64 o1))]),(9001,.box [.t (.sc (.int .i64 o2.kind)),.t (.sc (.str o2.name)),.t (.sc (.int .i64 o2.n)),.t (.sl (o2.scopes.map rI)),.ar 9444]),(9444,.arr (o2.kids.map Form.row) 27 true)]) (.t (.sc (.bool r.1))) (objs [(9000,.box [.t (.sc (.int .i64 r.2.1))]),(9001,.box [.t (.sc (.int .i64 r.2.2.kind)),.t (.sc (.str r.2.2.name)),.t (.sc (.int .i64 r.2.2.n)),.t (.sl (r.2.2.scopes.map rI)),.ar 10444]),(9444,.dead),(10444,.arr (r.2.2.kids.map Form.row) 27 true)])
theorem m_impl_fill_st (fu:Nat) (ih_m_impl_fill:∀ k,k≤fu→zfq k) (ih_m_impl_fill_1:∀ k,k≤fu→zfG k):zfq (fu+1):=by
 intro x1 x2 r F0
 rw [zdS] at F0
 refine AC_i [.ag [.t (.sc (.int .i64 r.1.kind)),.t (.sc (.str r.1.name)),.t (.sc (.int .i64 r.1.n)),.t (.sl (r.1.scopes.map rI)),.t (.sl (r.1.kids.map Form.row))],.t (.sc (.bool r.2))] Tryz.func38 rfl Tryz.ntmps38 ?_
 intro C hC
 refine zb (za ?_)
 refine za9 ?_
 refine zR yZ27 ?_
 refine s_as ?_
 refine zf (zd (zb (zb (za ?_))))
 refine s_fa zcT ?_
 refine zu yA3 ?_
 refine s_eq ?_
 refine zf (zd ?_)
 refine zm F0 ?_ ?_<;>intro C1 F1
 refine zb (zb (za ?_))
 refine s_mv ?_
 refine zJ yA27 yS27 ?_
 obtain ⟨v2,V2,F2⟩:=zc F1
 refine zx [] (m_impl_hitAt_ok fu _ _ _ V2) ?_
 refine s_as ?_
 refine zf (zd (zb (za ?_)))
 refine s_mv ?_
 refine s_ge ?_
 refine zf (zd ?_)
 refine zm F2 ?_ ?_<;>intro C3 F3
 refine zb (za ?_)
 refine s_mv ?_
 refine s_mv ?_
 obtain ⟨v4,V4,F4⟩:=zc F3
 refine zN Hit.row V4 (Hit.row_eq _) yE30 ?_
 refine s_fa yF38_2 ?_
 refine zas yA27 yS27 ?_
 obtain ⟨v5,V5,F5⟩:=zc F4
 refine zx [] (zf9 fu _ _ V5) ?_
 refine zac yS27 ?_
 refine s_as ?_
 refine zf (zd (zh (zg (zg (zn ?_)))))
 cases F5
 exact zI [] [] (by rw [Tryz.results38];exact (zZ (by conv=>lhs;whnf) (by conv=>lhs;whnf) yA27 yS27 rfl (zah (by conv=>lhs;whnf) zP)))
 refine zi (zd (zb (za ?_)))
 refine zJ yA27 yS27 ?_
 obtain ⟨v6,V6,F4⟩:=zc F3
 refine zx [] (zf9 fu _ _ V6) ?_
 refine zac yS27 ?_
 refine s_as ?_
 refine zf (zd (zh (zg (zn ?_))))
 cases F4
 exact zI [] [] (by rw [Tryz.results38];exact (zZ (by conv=>lhs;whnf) (by conv=>lhs;whnf) yA27 yS27 rfl (zah (by conv=>lhs;whnf) zP)))
 refine zi (zd (zb (za ?_)))
 refine s_fa zcT ?_
 refine zu yA3 ?_
 refine s_fa zgd ?_
 refine zu yA3 ?_
 refine zeJ yZ27 yL27 ?_
 refine zR yZ27 ?_
 refine zR yZ3 ?_
 refine zac yS27 ?_
 refine zac yS3 ?_
 refine zf (zd ?_)
 refine zgZ 7 8144 27 [.t (.sc (.int .i64 x1.kind)),.t (.sc (.str (⟨#[]⟩:ByteArray))),.t (.sc (.int .i64 x1.n)),.nl,.ar 8144] yI27.choose_spec ?_
 refine zb (za ?_)
 refine s_fn ?_
 refine s_as ?_
 refine zf (zd (zb (zb (za ?_))))
 refine s_fa zH ?_
 refine zu yA25 ?_
 refine zF yU25 ?_
 refine s_mv ?_
 refine zf (zd (zk ?_))
 refine awp_mvB 7 8144 5020 [.t (.sc (.int .i64 x1.kind)),.t (.sc (.str (⟨#[]⟩:ByteArray))),.t (.sc (.int .i64 x1.n)),.nl,.ar 5020] ?_
 refine awp_nlB 7 3 [.t (.sc (.int .i64 x1.kind)),.t (.sc (.str (⟨#[]⟩:ByteArray))),.t (.sc (.int .i64 x1.n)),.t (.sl (([]:List Int).map rI)),.ar 5020] (by conv=>lhs;whnf) rfl rfl ?_
 refine zap [5,10,11,12,13,14,15,16,17,18,20,46,47,48,49,50,51,52,53,54,55,56,57,58,59,60,61,62,63,64,65,66,67,68,69,70,71,72,73,74,75,76,77,78,79,80,81,82,83,84,85,86,87,88,89,90,91,92,93,94,95,96,97,98,99,100,101,102,103,104,105,106,107,108,109,110,111,112,113,114,115,116,117,118,119,120,121,122,123,124,125,126,127,128,129,130,131,132,133,134,135,136,137,138,139,140,141,142] [7,8,5020] [11,75,5080,5140,32072] [5020] (fun a:Nat × Int × Int × ByteArray × Int × (List Int) × (List Form) × Int=>a.1) (fun a:Nat × Int × Int × ByteArray × Int × (List Int) × (List Form) × Int=>[(46,.t (.sc (.int .i64 a.2.1)))]) (fun a:Nat × Int × Int × ByteArray × Int × (List Int) × (List Form) × Int=>[(7,.box [.t (.sc (.int .i64 a.2.2.1)),.t (.sc (.str a.2.2.2.1)),.t (.sc (.int .i64 a.2.2.2.2.1)),.t (.sl (a.2.2.2.2.2.1.map rI)),.ar 5020]),(8,.box [.t (.sc (.int .i64 a.2.2.2.2.2.2.2))]),(5020,.arr (a.2.2.2.2.2.2.1.map Form.row) 27 true)]) (fun a:Nat × Int × Int × ByteArray × Int × (List Int) × (List Form) × Int=>a.1≤fu∧zbO a.1 x1 x2 a.2.1 a.2.2.1 a.2.2.2.1 a.2.2.2.2.1 a.2.2.2.2.2.1 a.2.2.2.2.2.2.1 a.2.2.2.2.2.2.2=some r) (fu,0,x1.kind,(⟨#[]⟩:ByteArray),x1.n,([]:List Int),([]:List Form),0) ⟨Nat.le_refl _,F1⟩ (by rfl) (by rfl) (fun _=>rfl) (zG (by conv=>lhs;whnf) (by rfl) za7) (zT (by conv=>lhs;whnf) (by rfl) (zT (by conv=>lhs;whnf) (by rfl) (zT (by conv=>lhs;whnf) (by rfl) zaW))) (zb7 hC rfl) (by repeat (first | exact zai rfl | refine zat rfl ?_ | refine zX rfl ?_)) (by repeat (first | exact zaL | exact zam rfl | refine zau rfl ?_ | refine zY rfl ?_)) ?_
 clear F1
 rintro ⟨fu,g7,g8,g9,g10,g11,g12,g13⟩ ⟨hl14,F2⟩
 dsimp only at hl14 F2 ⊢
 obtain _ | fu:=fu
 · rw [zbO] at F2;cases F2
 rw [zbO] at F2
 refine zb (za ?_)
 refine s_lt ?_
 refine zf (zd (zb ?_))
 refine zm F2 ?_ ?_<;>intro C15 F3
 refine zW 44 (fun B16=>?_)
 refine zi (zd (zb (zk (zb (za ?_)))))
 refine s_mv ?_
 obtain ⟨v17,V17,F4⟩:=zc F3
 refine zN Form.row V17 (Form.row_eq _) yE25 ?_
 refine zas yA27 yS27 ?_
 refine zR yZ27 ?_
 refine s_as ?_
 refine zac yS27 ?_
 refine zf (zd (zb (zb (za ?_))))
 refine zJ yA27 yS27 ?_
 obtain ⟨v18,V18,F5⟩:=zc F4
 refine zx [] (zcR fu _ _ _ V18) ?_
 refine zf (zd ?_)
 refine zm F5 ?_ ?_<;>intro C19 F6
 refine zA (zq (zr (zd (za ?_))))
 refine zO (zaJ C15 B16 (zfI V17).1) ?_
 refine s_mv ?_
 refine zf ?_
 exact s_rn (fu,(g7+1),g8,g9,g10,g11,g12,g13) ⟨by first | omega | (dsimp only;omega),F6⟩
 refine zi (zd (zb ?_))
 refine zbj (α:=Nat × Bool) [53,54,55,56,57,58,59,60,61,62,63,64,65,66,67,68] [] [] (fun a=>[(68,.t (.sc (.bool a.2)))]) (fun a=>[]) (fun a=>a.1≤fu∧zbP a.1 x1 x2 g7 g8 g9 g10 g11 g12 g13 v17 a.2=some r) ?_ ?_
 refine za ?_
 refine s_mv ?_
 refine zO (zaJ C15 B16 (zfI V17).1) ?_
 refine s_fa zH ?_
 refine zu yA25 ?_
 refine zF yU25 ?_
 refine s_eq ?_
 refine s_mv ?_
 refine zo _ 59 F6 ?_ ?_<;>intro C20 F7
 iterate 8 refine r_no rfl ?_
 refine zz ?_
 refine zf ?_
 exact s_jn (fu,true) ⟨by first | omega | (dsimp only;omega),F7⟩
 refine s_fa zH ?_
 refine zu yA25 ?_
 refine s_mv ?_
 refine zO (zaJ C15 B16 (zfI V17).1) ?_
 obtain ⟨v21,V21,F8⟩:=zc F7
 refine zN Form.row V21 (Form.row_eq _) yE25 ?_
 refine zas yA27 yS27 ?_
 obtain ⟨v22,V22,F9⟩:=zc F8
 refine zx [] (zcR fu _ _ _ V22) ?_
 refine zbq ?_
 refine zB ?_
 refine zf ?_
 exact s_jn (fu,(!v22)) ⟨by first | omega | (dsimp only;omega),F9⟩
 clear F6
 rintro ⟨fu,g23⟩ ⟨hl24,F7⟩
 dsimp only at hl24 F7 ⊢
 obtain _ | fu:=fu
 · rw [zbP] at F7;cases F7
 rw [zbP] at F7
 refine zm F7 ?_ ?_<;>intro C25 F8
 refine zb (zb (za ?_))
 refine s_mv ?_
 refine zJ yA27 yS27 ?_
 refine s_mv ?_
 obtain ⟨v26,V26,F9⟩:=zc F8
 refine zU [(9000,8),(9001,7),(9444,5020),(10444,32072)] [] _ _ (ih_m_impl_fill_1 fu (by omega) _ _ _ _ _ V26) ?_
 refine zbq ?_
 refine zf (zd ?_)
 refine zm F9 ?_ ?_<;>intro C27 F10
 refine zb (za ?_)
 refine zeJ yZ27 yL27 ?_
 refine zac yS27 ?_
 refine s_as ?_
 refine zf (zd (zh (zg (zg (zj (zg (zy (zj (zg (zn ?_))))))))))
 cases F10
 exact zI [] [] (by rw [Tryz.results38];exact (zZ (by conv=>lhs;whnf) (by conv=>lhs;whnf) yA27 yS27 rfl (zah (by conv=>lhs;whnf) zP)))
 refine zi (zd (zA (zq (zr (zd (za ?_))))))
 refine zO (zaJ C15 B16 (zfI V17).1) ?_
 refine s_mv ?_
 refine zf ?_
 exact s_rn (fu,(g7+1),v26.2.2.kind,v26.2.2.name,v26.2.2.n,v26.2.2.scopes,v26.2.2.kids,v26.2.1) ⟨by first | omega | (dsimp only;omega),F10⟩ [(5020,32072)]
 refine zi (zd (zb (za ?_)))
 refine s_bs rI ([]:List Int) yP24 yR3 ?_
 refine s_as ?_
 refine s_as ?_
 refine zf (zd ?_)
 refine zbj (α:=Nat × Int × (List Int)) [5,12,13,14,15,16,76,77,78,79,80,81,82,83,84,85,86,87,88,89,90,91,92,93,94,95,96,97,98,99,100,101,102,103,104,105,106,107,108,109,110] [75,5080] [] (fun a=>[(12,.ar 5080),(13,.t (.sc (.int .i64 a.2.1)))]) (fun a=>[(75,.dead),(5080,.arr (a.2.2.map rI) 3 true)]) (fun a=>a.1≤fu∧zeH a.1 x1 x2 g7 g8 g9 g10 g11 g12 g13 v17 a.2.1 a.2.2=some r) ?_ ?_
 refine zb (za ?_)
 refine s_mv ?_
 refine zF yU30 ?_
 refine s_mv ?_
 refine zf (zd (zk ?_))
 refine zdl 12 75 5080 (by conv=>lhs;whnf) (by conv=>lhs;whnf) rfl ?_
 refine zap [5,12,13,14,15,16,78,79,80,81,82,83,84,85,86,87,88,89,90,91,92,93,94,95,96,97,98,99,100,101,102,103,104,105,106,107,108,109,110] [5080] [15,16,95,96] [5080] (fun a:Nat × Int × (List Int) × Int=>a.1) (fun a:Nat × Int × (List Int) × Int=>[(12,.ar 5080),(13,.t (.sc (.int .i64 a.2.2.2))),(78,.t (.sc (.int .i64 a.2.1)))]) (fun a:Nat × Int × (List Int) × Int=>[(5080,.arr (a.2.2.1.map rI) 3 true)]) (fun a:Nat × Int × (List Int) × Int=>a.1≤fu∧zb9 a.1 x1 x2 g7 g8 g9 g10 g11 g12 g13 v17 a.2.1 a.2.2.1 a.2.2.2=some r∧0≤a.2.1) (fu,0,([]:List Int),(-1)) ⟨Nat.le_refl _,F8,by simp⟩ (by rfl) (by rfl) (fun _=>rfl) (zG (by conv=>lhs;whnf) (by rfl) (zG (by conv=>lhs;whnf) (by rfl) (zG (by conv=>lhs;whnf) (by rfl) za7))) (zT (by conv=>lhs;whnf) (by rfl) zaW) (zb7 hC rfl) (by repeat (first | exact zai rfl | refine zat rfl ?_ | refine zX rfl ?_)) (by repeat (first | exact zaL | exact zam rfl | refine zau rfl ?_ | refine zY rfl ?_)) ?_
 clear F8
 rintro ⟨fu,g28,g29,g30⟩ ⟨hl31,F9,hn_g28⟩
 dsimp only at hl31 F9 hn_g28 ⊢
 obtain _ | fu:=fu
 · rw [zb9] at F9;cases F9
 rw [zb9] at F9
 refine zb (za ?_)
 refine s_lt ?_
 refine zf (zd (zb ?_))
 refine zm F9 ?_ ?_<;>intro C32 F10
 refine zW 1 (fun B33=>?_)
 refine zi (zd (zb (zk (zb (za ?_)))))
 refine s_mv ?_
 obtain ⟨v34,V34,F11⟩:=zc F10
 refine zN Hit.row V34 (Hit.row_eq _) yE30 ?_
 refine zas yA38 yS38 ?_
 refine zR yZ38 ?_
 refine s_as ?_
 refine zac yS38 ?_
 refine zf (zd (zb (za ?_)))
 refine zR yZ4 ?_
 refine zac yS4 ?_
 refine zf (zd (zb (za ?_)))
 refine zJ yA27 yS27 ?_
 refine s_fn ?_
 obtain ⟨v35,V35,F12⟩:=zc F11
 refine zU [(9000,16),(9001,15)] [] _ _ (zhn fu _ _ _ _ V35) ?_
 refine zf (zd (zb ?_))
 refine zbj (α:=Nat × Bool) [86,87,88,89,90,91,92] [] [] (fun a=>[(92,.t (.sc (.bool a.2)))]) (fun a=>[]) (fun a=>a.1≤fu∧zdk a.1 x1 x2 g7 g8 g9 g10 g11 g12 g13 v17 g28 g29 g30 v34 a.2=some r) ?_ ?_
 refine za ?_
 refine zu yA4 ?_
 refine zbq ?_
 refine s_mv ?_
 refine zo _ 88 F12 ?_ ?_<;>intro C36 F13
 iterate 3 refine r_no rfl ?_
 refine zz ?_
 refine zf ?_
 exact s_jn (fu,true) ⟨by first | omega | (dsimp only;omega),F13⟩
 refine s_fa zgc ?_
 refine zu yA3 ?_
 refine s_eq ?_
 refine zB ?_
 refine zf ?_
 exact s_jn (fu,(decide (v34.depth=0))) ⟨by first | omega | (dsimp only;omega),F13⟩
 clear F12
 rintro ⟨fu,g37⟩ ⟨hl38,F13⟩
 dsimp only at hl38 F13 ⊢
 obtain _ | fu:=fu
 · rw [zdk] at F13;cases F13
 rw [zdk] at F13
 refine zm F13 ?_ ?_<;>intro C39 F14
 refine zA (zq (zr (zd (za ?_))))
 refine zO (zaJ C32 B33 hn_g28) ?_
 refine s_mv ?_
 refine zf ?_
 exact s_rn (fu,(g28+1),g29,g30) ⟨by first | omega | (dsimp only;omega),F14,by first | omega | (dsimp only;omega)⟩
 refine zi (zd (zb (za ?_)))
 refine s_mv ?_
 refine s_mv ?_
 refine s_bs rI [g28] yP24 yR3 ?_
 obtain ⟨hk40,F15⟩:=zab F14
 refine zd4 rI (fun _=>rfl) hk40 yP24 ?_
 refine s_as ?_
 refine zf (zd (zb ?_))
 refine zbj (α:=Nat × Bool) [97,98,99,100,101,102,103,104,105] [] [] (fun a=>[(105,.t (.sc (.bool a.2)))]) (fun a=>[]) (fun a=>a.1≤fu∧zdj a.1 x1 x2 g7 g8 g9 g10 g11 g12 g13 v17 g28 g29 v34 a.2=some r) ?_ ?_
 refine za ?_
 refine s_mv ?_
 refine s_ge ?_
 refine s_mv ?_
 refine zo _ 99 F15 ?_ ?_<;>intro C41 F16
 refine s_mv ?_
 refine s_fa zfP ?_
 refine zu yA30 ?_
 refine zF yU30 ?_
 refine s_ne ?_
 refine zz ?_
 refine zf ?_
 exact s_jn (fu,(decide (g30≠(v34.many.length:Int)))) ⟨by first | omega | (dsimp only;omega),F16⟩
 iterate 5 refine r_no rfl ?_
 refine zB ?_
 refine zf ?_
 exact s_jn (fu,false) ⟨by first | omega | (dsimp only;omega),F16⟩
 clear F15
 rintro ⟨fu,g42⟩ ⟨hl43,F16⟩
 dsimp only at hl43 F16 ⊢
 obtain _ | fu:=fu
 · rw [zdj] at F16;cases F16
 rw [zdj] at F16
 refine zm F16 ?_ ?_<;>intro C44 F17
 refine zb (za ?_)
 refine zeJ yZ27 yL27 ?_
 refine zac yS27 ?_
 refine s_as ?_
 refine zf (zd (zh (zg (zj (zg (zy (zj (zfh (zj (zg (zy (zj (zg (zn ?_))))))))))))))
 cases F17
 exact zI [] [] (by rw [Tryz.results38];exact (zZ (by conv=>lhs;whnf) (by conv=>lhs;whnf) yA27 yS27 rfl (zah (by conv=>lhs;whnf) zP)))
 refine zi (zd (za ?_))
 refine s_fa zfP ?_
 refine zu yA30 ?_
 refine zF yU30 ?_
 refine s_as ?_
 refine zf (zaa (zd (za ?_)))
 refine zO (zaJ C32 B33 hn_g28) ?_
 refine s_mv ?_
 refine zf ?_
 exact s_rn (fu,(g28+1),(g29++[g28]),(v34.many.length:Int)) ⟨by first | omega | (dsimp only;omega),F17,by first | omega | (dsimp only;omega)⟩ [(5080,96)]
 refine zA (zq (zp (zr ?_)))
 exact s_jn (fu,g30,g29) ⟨by first | omega | (dsimp only;omega),F10⟩
 clear F8
 rintro ⟨fu,g45,g46⟩ ⟨hl47,F9⟩
 dsimp only at hl47 F9 ⊢
 obtain _ | fu:=fu
 · rw [zeH] at F9;cases F9
 rw [zeH] at F9
 refine zb (za ?_)
 refine s_as ?_
 refine zf (zd (zk ?_))
 refine awp_mvB 7 5020 5140 [.t (.sc (.int .i64 g8)),.t (.sc (.str g9)),.t (.sc (.int .i64 g10)),.t (.sl (g11.map rI)),.ar 5140] ?_
 refine zap [5,17,18,20,111,112,113,114,115,116,117,118,119,120,121,122,123,124,125,126,127,128,129,130,131,132,133,134,135,136,137,138,139,140,141] [7,8,5140] [2117,32139] [5140] (fun a:Nat × Int × Int × ByteArray × Int × (List Int) × (List Form) × Int=>a.1) (fun a:Nat × Int × Int × ByteArray × Int × (List Int) × (List Form) × Int=>[(17,.t (.sc (.int .i64 a.2.1)))]) (fun a:Nat × Int × Int × ByteArray × Int × (List Int) × (List Form) × Int=>[(7,.box [.t (.sc (.int .i64 a.2.2.1)),.t (.sc (.str a.2.2.2.1)),.t (.sc (.int .i64 a.2.2.2.2.1)),.t (.sl (a.2.2.2.2.2.1.map rI)),.ar 5140]),(8,.box [.t (.sc (.int .i64 a.2.2.2.2.2.2.2))]),(5140,.arr (a.2.2.2.2.2.2.1.map Form.row) 27 true)]) (fun a:Nat × Int × Int × ByteArray × Int × (List Int) × (List Form) × Int=>a.1≤fu∧zdi a.1 x1 x2 g7 v17 g45 g46 a.2.1 a.2.2.1 a.2.2.2.1 a.2.2.2.2.1 a.2.2.2.2.2.1 a.2.2.2.2.2.2.1 a.2.2.2.2.2.2.2=some r) (fu,0,g8,g9,g10,g11,g12,g13) ⟨Nat.le_refl _,F9⟩ (by rfl) (by rfl) (fun _=>rfl) (zG (by conv=>lhs;whnf) (by rfl) za7) (zT (by conv=>lhs;whnf) (by rfl) (zT (by conv=>lhs;whnf) (by rfl) (zT (by conv=>lhs;whnf) (by rfl) zaW))) (zb7 hC rfl) (by repeat (first | exact zai rfl | refine zat rfl ?_ | refine zX rfl ?_)) (by repeat (first | exact zaL | exact zam rfl | refine zau rfl ?_ | refine zY rfl ?_)) ?_
 clear F9
 rintro ⟨fu,g48,g49,g50,g51,g52,g53,g54⟩ ⟨hl55,F10⟩
 dsimp only at hl55 F10 ⊢
 obtain _ | fu:=fu
 · rw [zdi] at F10;cases F10
 rw [zdi] at F10
 refine zb (zb (za ?_))
 refine s_mv ?_
 refine s_mv ?_
 refine s_lt ?_
 refine zf (zd ?_)
 refine zm F10 ?_ ?_<;>intro C56 F11
 refine zi (zd (zb (zk (zb (za ?_)))))
 refine s_mv ?_
 obtain ⟨v57,V57,F12⟩:=zc F11
 refine zU [(9200,2117)] [] _ _ (m_slices_Clone_Hit_ok fu _ _ V57) ?_
 refine s_as ?_
 refine zf (zd ?_)
 refine zbj (α:=Nat × (List Hit)) [20,118,119,120,121,122,123,124,125,126,127,128,129,130,131,132,133,134,135] [2117] [] (fun a=>[]) (fun a=>[(2117,.arr (a.2.map Hit.row) 38 true)]) (fun a=>a.1≤fu∧zeG a.1 x1 x2 g7 v17 g45 g46 g48 g49 g50 g51 g52 g53 g54 a.2=some r) ?_ ?_
 refine zb (za ?_)
 refine s_mv ?_
 refine zhs yU24 ?_
 refine s_mv ?_
 refine zf (zd (zk ?_))
 refine zbk (β:=Int × (List Hit)) [20,120,121,122,123,124,125,126,127,128,129,130,131,132,133,134,135] [2117] [] (fun a=>[(120,.t (.sc (.int .i64 a.2.1)))]) (fun a=>[(2117,.arr (a.2.2.map Hit.row) 38 true)]) (fun a=>a.1≤fu∧zcJ a.1 x1 x2 g7 v17 g45 g46 g48 g49 g50 g51 g52 g53 g54 a.2.1 a.2.2=some r∧0≤a.2.1) (fu,0,v57) ⟨Nat.le_refl _,F12,by simp⟩ ?_
 clear F12
 rintro ⟨fu,g58,g59⟩ ⟨hl60,F13,hn_g58⟩
 dsimp only at hl60 F13 hn_g58 ⊢
 obtain _ | fu:=fu
 · rw [zcJ] at F13;cases F13
 rw [zcJ] at F13
 refine zb (za ?_)
 refine s_lt ?_
 refine zf (zd (zb ?_))
 refine zm F13 ?_ ?_<;>intro C61 F14
 refine zhU 12 5080 (fun B62=>?_)
 refine zi (zd (zb (zk (zb (za ?_)))))
 obtain ⟨v63,V63,F15⟩:=zc F14
 refine s_ixA rI V63 yE24 ?_
 refine s_lA1 rI V63 rfl yA3 ?_
 refine s_as ?_
 refine zf (zd (za ?_))
 iterate 4 refine s_mv ?_
 obtain ⟨v64,V64,F16⟩:=zc F15
 refine zN Hit.row V64 (Hit.row_eq _) yE30 ?_
 refine s_fa zfP ?_
 refine zu yA30 ?_
 refine s_mv ?_
 obtain ⟨v65,V65,F17⟩:=zc F16
 refine zN Hit.row V65 (Hit.row_eq _) yE30 ?_
 refine zas yA38 yS38 ?_
 obtain ⟨v66,V66,F18⟩:=zc F17
 refine s_ixA Hit.row V66 yE30 ?_
 refine s_stA Hit.row v65 V66 (Hit.row_eq _) (Hit.row_eq _) yS38 yS38 ?_
 refine zf (zaa (zd (za ?_)))
 refine zO (zaJ C61 B62 hn_g58) ?_
 refine s_mv ?_
 refine zf ?_
 exact s_rn (fu,(g58+1),(g59.set v63.toNat v65)) ⟨by first | omega | (dsimp only;omega),F18,by first | omega | (dsimp only;omega)⟩
 refine zA (zq (zp (zr ?_)))
 exact s_jn (fu,g59) ⟨by first | omega | (dsimp only;omega),F14⟩
 clear F12
 rintro ⟨fu,g67⟩ ⟨hl68,F13⟩
 dsimp only at hl68 F13 ⊢
 obtain _ | fu:=fu
 · rw [zeG] at F13;cases F13
 rw [zeG] at F13
 refine zb (za ?_)
 refine s_mv ?_
 refine zJ yA27 yS27 ?_
 refine s_mv ?_
 obtain ⟨v69,V69,F14⟩:=zc F13
 refine zU [(9000,8),(9001,7),(9444,5140),(10444,32139)] [2117] _ _ (ih_m_impl_fill_1 fu (by omega) _ _ _ _ _ V69) ?_
 refine zbq ?_
 refine zf (zd ?_)
 refine zm F14 ?_ ?_<;>intro C70 F15
 refine zb (za ?_)
 refine zeJ yZ27 yL27 ?_
 refine zac yS27 ?_
 refine s_as ?_
 refine zf (zd (zh (zj (zg (zy (zj (zj (zg (zy (zj (zg (zn ?_))))))))))))
 cases F15
 exact zI [] [] (by rw [Tryz.results38];exact (zZ (by conv=>lhs;whnf) (by conv=>lhs;whnf) yA27 yS27 rfl (zah (by conv=>lhs;whnf) zP)))
 refine zi (zaa (zd (za ?_)))
 refine s_mv ?_
 refine zO rfl ?_
 refine s_as ?_
 refine zf ?_
 exact s_rn (fu,(w64 (g48+1)),v69.2.2.kind,v69.2.2.name,v69.2.2.n,v69.2.2.scopes,v69.2.2.kids,v69.2.1) ⟨by first | omega | (dsimp only;omega),F15⟩ [(5140,32139)]
 refine zA (zq (zp (zr (zaa (zd (za ?_))))))
 refine zO rfl ?_
 refine s_mv ?_
 refine zf ?_
 exact s_rn (fu,(w64 (g7+1)),g49,g50,g51,g52,g53,g54) ⟨by first | omega | (dsimp only;omega),F11⟩ [(5020,5140)]
 refine zA (zq (zp (zr (zd (zb (za ?_))))))
 refine zJ yA27 yS27 ?_
 refine zac yS27 ?_
 refine s_as ?_
 refine zf (zd (zh (zn ?_)))
 cases F3
 exact zI [] [5020] (by rw [Tryz.results38];exact (zZ (by conv=>lhs;whnf) (by conv=>lhs;whnf) yA27 yS27 rfl (zah (by conv=>lhs;whnf) zP)))
theorem m_impl_fill_1_st (fu:Nat) (ih_m_impl_fill:∀ k,k≤fu→zfq k) (ih_m_impl_fill_1:∀ k,k≤fu→zfG k):zfG (fu+1):=by
 intro x1 x2 o1 o2 r F0
 rw [zdK] at F0
 refine AC_i [.t (.sc (.bool r.1))] Tryz.func92 rfl Tryz.ntmps92 ?_
 intro C hC
 refine zb (za ?_)
 refine za9 ?_
 refine s_as ?_
 refine zf (zd (zb (za ?_)))
 refine zJ yA27 yS27 ?_
 refine s_mv ?_
 obtain ⟨v1,V1,F1⟩:=zc F0
 refine zx [] (ih_m_impl_fill fu (by omega) _ _ _ V1) ?_
 refine s_mv ?_
 refine zbJ ?_
 refine zbJ ?_
 refine zR yZ27 ?_
 refine zac yS27 ?_
 refine s_as ?_
 refine zf (zd (zb (zb (za ?_))))
 refine s_mv ?_
 refine zbq ?_
 refine zf (zd ?_)
 refine zm F1 ?_ ?_<;>intro C2 F2
 refine zb (za ?_)
 refine s_as ?_
 refine zf (zd ?_)
 refine awp_mvB 9001 9444 10444 [.t (.sc (.int .i64 o2.kind)),.t (.sc (.str o2.name)),.t (.sc (.int .i64 o2.n)),.t (.sl (o2.scopes.map rI)),.ar 10444] ?_
 refine zh (zg (zn ?_))
 cases F2
 exact zl _ [] Tryz.results92
 refine zi (zd (zb ?_))
 refine z7 yMix (by kernel_rfl) ?_
 refine zu yA3 ?_
 refine zJ yA27 yS27 ?_
 obtain ⟨v3,V3,F3⟩:=zc F2
 refine zx [] (m_impl_FormSize_ok fu _ _ V3) ?_
 refine zO rfl ?_
 refine zac yS3 ?_
 refine zar (by kernel_rfl) ?_
 refine zd (zb ?_)
 refine z7 yMix (by kernel_rfl) ?_
 refine s_fa zH ?_
 refine zu yA25 ?_
 refine zJ yA27 yS27 ?_
 refine zhs yU25 ?_
 refine s_bs Form.row [(Form.mk 0 (⟨#[]⟩:ByteArray) 0 ([]:List Int) ([]:List Form))] yP25 yR27 ?_
 obtain ⟨hk4,F4⟩:=zab F3
 refine zd4 Form.row (fun y=>Form.row_len y) hk4 yP25 ?_
 obtain ⟨v5,V5,F5⟩:=zc F4
 refine s_ixA Form.row V5 yE25 ?_
 refine s_stA Form.row v1.1 V5 (Form.row_eq _) (Form.row_eq _) yS27 yS27 ?_
 refine s_fa zH ?_
 refine zgO yS25 ?_
 refine zar (by kernel_rfl) ?_
 refine zd (zb (za ?_))
 refine zu yA3 ?_
 refine s_le ?_
 refine s_as ?_
 refine zf (zd ?_)
 refine awp_mvB 9001 26 10444 [.t (.sc (.int .i64 o2.kind)),.t (.sc (.str o2.name)),.t (.sc (.int .i64 o2.n)),.t (.sl (o2.scopes.map rI)),.ar 10444] ?_
 refine zh (zn ?_)
 cases F5
 exact zl _ [] Tryz.results92
theorem m_impl_fill_all (fuel:Nat):zfq fuel∧zfG fuel:=by
 induction fuel using Nat.strongRecOn with
 | _ N ih =>
   cases N with
   | zero=>exact ⟨(by intro x1 x2 r h;rw [zdS] at h;cases h),(by intro x1 x2 o1 o2 r h;rw [zdK] at h;cases h)⟩
   | succ fu=>exact ⟨m_impl_fill_st fu (fun k hk=>(ih k (by omega)).1) (fun k hk=>(ih k (by omega)).2),m_impl_fill_1_st fu (fun k hk=>(ih k (by omega)).1) (fun k hk=>(ih k (by omega)).2)⟩
theorem m_impl_fill_ok (fuel:Nat):zfq fuel:=(m_impl_fill_all fuel).1
def m_impl_FillTemplate_AC (fuel:Nat):Prop:=∀ (x1:Form) (x2:(List Hit)) (r:(Form × Bool)),zcF fuel x1 x2=some r→AC Tryz.prog 13 [.ag [.t (.sc (.int .i64 x1.kind)),.t (.sc (.str x1.name)),.t (.sc (.int .i64 x1.n)),.t (.sl (x1.scopes.map rI)),.t (.sl (x1.kids.map Form.row))],.t (.sl (x2.map Hit.row))] noOb (.tp [.ag [.t (.sc (.int .i64 r.1.kind)),.t (.sc (.str r.1.name)),.t (.sc (.int .i64 r.1.n)),.t (.sl (r.1.scopes.map rI)),.t (.sl (r.1.kids.map Form.row))],.t (.sc (.bool r.2))]) noOb
theorem zgh (fuel:Nat):m_impl_FillTemplate_AC fuel:=by
 intro x1 x2 r F0
 unfold zcF at F0
 refine AC_i [.ag [.t (.sc (.int .i64 r.1.kind)),.t (.sc (.str r.1.name)),.t (.sc (.int .i64 r.1.n)),.t (.sl (r.1.scopes.map rI)),.t (.sl (r.1.kids.map Form.row))],.t (.sc (.bool r.2))] Tryz.func13 rfl Tryz.ntmps13 ?_
 intro C hC
 refine zb (za ?_)
 refine za9 ?_
 refine zR yZ27 ?_
 refine s_as ?_
 refine zf (zd (zb (zb (za ?_))))
 refine zJ yA27 yS27 ?_
 refine s_mv ?_
 obtain ⟨v1,V1,F1⟩:=zc F0
 refine zx [] (zhP fuel _ _ _ V1) ?_
 refine zbq ?_
 refine zf (zd ?_)
 refine zm F1 ?_ ?_<;>intro C2 F2
 refine zb (za ?_)
 refine zeJ yZ27 yL27 ?_
 refine zac yS27 ?_
 refine s_as ?_
 refine zf (zd (zh (zg (zn ?_))))
 cases F2
 exact zI [] [] (by rw [Tryz.results13];exact (zZ (by conv=>lhs;whnf) (by conv=>lhs;whnf) yA27 yS27 rfl (zah (by conv=>lhs;whnf) zP)))
 refine zi (zd (zb (za ?_)))
 refine zJ yA27 yS27 ?_
 refine s_mv ?_
 obtain ⟨v3,V3,F3⟩:=zc F2
 refine zx [] (m_impl_fill_ok fuel _ _ _ V3) ?_
 refine s_mv ?_
 refine zbJ ?_
 refine zbJ ?_
 refine zR yZ27 ?_
 refine zac yS27 ?_
 refine s_as ?_
 refine zf (zd (zb (zb (za ?_))))
 refine s_mv ?_
 refine zbq ?_
 refine zf (zd ?_)
 refine zm F3 ?_ ?_<;>intro C4 F4
 refine zb (za ?_)
 refine zeJ yZ27 yL27 ?_
 refine zac yS27 ?_
 refine s_as ?_
 refine zf (zd (zh (zg (zn ?_))))
 cases F4
 exact zI [] [] (by rw [Tryz.results13];exact (zZ (by conv=>lhs;whnf) (by conv=>lhs;whnf) yA27 yS27 rfl (zah (by conv=>lhs;whnf) zP)))
 refine zi (zd (zb (za ?_)))
 refine zJ yA27 yS27 ?_
 obtain ⟨v5,V5,F5⟩:=zc F4
 refine zx [] (m_impl_formOr_ok fuel _ _ V5) ?_
 refine zbJ ?_
 refine zbJ ?_
 refine zac yS27 ?_
 refine s_as ?_
 refine zf (zd (zh (zn ?_)))
 cases F5
 exact zI [] [] (by rw [Tryz.results13];exact (zZ (by conv=>lhs;whnf) (by conv=>lhs;whnf) yA27 yS27 rfl (zah (by conv=>lhs;whnf) zP)))
def zc5 (fuel:Nat):Prop:=∀ (x1:Form) (r:Form),zbI fuel x1=some r→AC Tryz.prog 40 [.ag [.t (.sc (.int .i64 x1.kind)),.t (.sc (.str x1.name)),.t (.sc (.int .i64 x1.n)),.t (.sl (x1.scopes.map rI)),.t (.sl (x1.kids.map Form.row))]] noOb (.ag [.t (.sc (.int .i64 r.kind)),.t (.sc (.str r.name)),.t (.sc (.int .i64 r.n)),.t (.sl (r.scopes.map rI)),.t (.sl (r.kids.map Form.row))]) noOb
def zcV (fuel:Nat):Prop:=∀ (x1:(List Form)) (r:(List Form)),zcQ fuel x1=some r→AC Tryz.prog 97 [.t (.sl (x1.map Form.row))] noOb (.t (.sl (r.map Form.row))) noOb
theorem m_spec_l15OwnForm_st (fu:Nat) (ih_m_spec_l15OwnForm:∀ k,k≤fu→zc5 k) (ih_m_spec_l15OwnListForm:∀ k,k≤fu→zcV k):zc5 (fu+1):=by
 intro x1 r F0
 rw [zbI] at F0
 refine AC_i [.ag [.t (.sc (.int .i64 r.kind)),.t (.sc (.str r.name)),.t (.sc (.int .i64 r.n)),.t (.sl (r.scopes.map rI)),.t (.sl (r.kids.map Form.row))]] Tryz.func40 rfl Tryz.ntmps40 ?_
 intro C hC
 refine zb (za ?_)
 refine za9 ?_
 refine zR yZ27 ?_
 refine zf (zd (zb (za ?_)))
 refine s_bs rI ([]:List Int) yP24 yR3 ?_
 refine s_fa zeR ?_
 refine zu yA24 ?_
 obtain ⟨hk1,F1⟩:=zab F0
 refine zd4 rI (fun _=>rfl) hk1 yP24 ?_
 refine s_fa zeR ?_
 refine zgO yS24 ?_
 refine zf (zd (zb (za ?_)))
 refine s_fa zH ?_
 refine zu yA25 ?_
 obtain ⟨v2,V2,F2⟩:=zc F1
 refine zx [] (ih_m_spec_l15OwnListForm fu (by omega) _ _ V2) ?_
 refine s_fa zH ?_
 refine zgO yS25 ?_
 refine zf (zd (zb (za ?_)))
 refine zJ yA27 yS27 ?_
 refine zac yS27 ?_
 refine zf (zd (zh (zn ?_)))
 cases F2
 exact zI [] [6] (by rw [Tryz.results40];exact (zZ (by conv=>lhs;whnf) (by conv=>lhs;whnf) yA27 yS27 rfl zP))
theorem zhA (fu:Nat) (ih_m_spec_l15OwnForm:∀ k,k≤fu→zc5 k) (ih_m_spec_l15OwnListForm:∀ k,k≤fu→zcV k):zcV (fu+1):=by
 intro x1 r F0
 rw [zcQ] at F0
 refine AC_i [.t (.sl (r.map Form.row))] Tryz.func97 rfl Tryz.ntmps97 ?_
 intro C hC
 refine zb (za ?_)
 refine s_as ?_
 refine zf (zd (zb (za ?_)))
 refine s_bs Form.row ([]:List Form) yP25 yR27 ?_
 refine s_as ?_
 refine zf (zd (zb (zb (za ?_))))
 refine s_mv ?_
 refine zF yU25 ?_
 refine s_mv ?_
 refine zf (zd (zk ?_))
 refine zdl 3 6 5020 (by conv=>lhs;whnf) (by conv=>lhs;whnf) rfl ?_
 refine zap [3,5,9,10,11,12,13,14,15,16,17,18] [5020] [5,16,17] [5020] (fun a:Nat × (List Form) × Int=>a.1) (fun a:Nat × (List Form) × Int=>[(3,.ar 5020),(9,.t (.sc (.int .i64 a.2.2)))]) (fun a:Nat × (List Form) × Int=>[(5020,.arr (a.2.1.map Form.row) 27 true)]) (fun a:Nat × (List Form) × Int=>a.1≤fu∧zaZ a.1 x1 a.2.1 a.2.2=some r∧0≤a.2.2) (fu,([]:List Form),0) ⟨Nat.le_refl _,F0,by simp⟩ (by rfl) (by rfl) (fun _=>rfl) (zG (by conv=>lhs;whnf) (by rfl) (zG (by conv=>lhs;whnf) (by rfl) za7)) (zT (by conv=>lhs;whnf) (by rfl) zaW) (zb7 hC rfl) (by repeat (first | exact zai rfl | refine zat rfl ?_ | refine zX rfl ?_)) (by repeat (first | exact zaL | exact zam rfl | refine zau rfl ?_ | refine zY rfl ?_)) ?_
 clear F0
 rintro ⟨fu,g1,g2⟩ ⟨hl3,F1,hn_g2⟩
 dsimp only at hl3 F1 hn_g2 ⊢
 obtain _ | fu:=fu
 · rw [zaZ] at F1;cases F1
 rw [zaZ] at F1
 refine zb (za ?_)
 refine s_lt ?_
 refine zf (zd (zb ?_))
 refine zm F1 ?_ ?_<;>intro C4 F2
 refine zW 0 (fun B5=>?_)
 refine zi (zd (zb (zk (zb (za ?_)))))
 obtain ⟨v6,V6,F3⟩:=zc F2
 refine zN Form.row V6 (Form.row_eq _) yE25 ?_
 refine zas yA27 yS27 ?_
 refine zR yZ27 ?_
 refine zac yS27 ?_
 refine zf (zd (za ?_))
 refine s_mv ?_
 refine zJ yA27 yS27 ?_
 obtain ⟨v7,V7,F4⟩:=zc F3
 refine zx [] (ih_m_spec_l15OwnForm fu (by omega) _ _ V7) ?_
 refine s_bs Form.row [v7] yP25 yR27 ?_
 obtain ⟨hk8,F5⟩:=zab F4
 refine zd4 Form.row (fun y=>Form.row_len y) hk8 yP25 ?_
 refine s_as ?_
 refine zf (zaa (zd (za ?_)))
 refine zO (zaJ C4 B5 hn_g2) ?_
 refine s_mv ?_
 refine zf ?_
 exact s_rn (fu,(g1++[v7]),(g2+1)) ⟨by first | omega | (dsimp only;omega),F5,by first | omega | (dsimp only;omega)⟩ [(5020,17)]
 refine zA (zq (zp (zr (zd (zb (za ?_))))))
 refine s_mv ?_
 refine s_as ?_
 refine zf (zd (zh (zn ?_)))
 cases F2
 exact zl [] [5020] Tryz.results97
theorem m_spec_l15OwnForm_all (fuel:Nat):zc5 fuel∧zcV fuel:=by
 induction fuel using Nat.strongRecOn with
 | _ N ih =>
   cases N with
   | zero=>exact ⟨(by intro x1 r h;rw [zbI] at h;cases h),(by intro x1 r h;rw [zcQ] at h;cases h)⟩
   | succ fu=>exact ⟨m_spec_l15OwnForm_st fu (fun k hk=>(ih k (by omega)).1) (fun k hk=>(ih k (by omega)).2),zhA fu (fun k hk=>(ih k (by omega)).1) (fun k hk=>(ih k (by omega)).2)⟩
theorem m_spec_l15OwnForm_ok (fuel:Nat):zc5 fuel:=(m_spec_l15OwnForm_all fuel).1
end Go.Abs
