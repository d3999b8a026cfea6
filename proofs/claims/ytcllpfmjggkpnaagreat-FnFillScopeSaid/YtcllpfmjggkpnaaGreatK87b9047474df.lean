/- A part of the proof: what the functions that the law calls answer, as pure values. -/
import Derived.Test.YtcllpfmjggkpnaaGreatKcd1b73107f87
import Derived.Test.YtcllpfmjggkpnaaGreatKef63bd874560
import Derived.Test.YtcllpfmjggkpnaaGreatK91fcc0fd7672
import Derived.Test.YtcllpfmjggkpnaaGreatKf13d1da57272
import Derived.Test.YtcllpfmjggkpnaaGreatKf8320a019dd3
import Derived.Test.YtcllpfmjggkpnaaGreatK51caa9494268
import Derived.Test.YtcllpfmjggkpnaaGreatKa8136476e481
import Derived.Test.YtcllpfmjggkpnaaGreatK1df75f79e59f
import Derived.Test.YtcllpfmjggkpnaaGreatK9007fc86218d
set_option linter.unusedSimpArgs false
set_option linter.unusedVariables false
set_option maxRecDepth 100000
set_option maxHeartbeats 4000000
namespace Go.Abs
open Go.Proofs
theorem m_spec_l4Match_st (fu:Nat) (ih_m_spec_l4List:∀ k,k≤fu→zfy k) (ih_m_spec_l4Match:∀ k,k≤fu→zdV k):zdV (fu+1):=by
 intro x1 x2 x3 x4 r F0
 rw [zb8] at F0
 refine AC_i [.t (.sl (r.1.map Hit.row)),.t (.sc (.bool r.2))] Tryz.func25 rfl Tryz.ntmps25 ?_
 intro C hC
 refine zb (za ?_)
 refine za9 ?_
 refine za9 ?_
 refine s_as ?_
 refine s_as ?_
 refine zf (zd (zb (za ?_)))
 refine s_bs Hit.row ([]:List Hit) yP30 yR38 ?_
 refine s_as ?_
 refine zf (zd (zb (zb (za ?_))))
 refine s_fa zcT ?_
 refine zu yA3 ?_
 refine s_eq ?_
 refine zf (zd ?_)
 refine zm F0 ?_ ?_<;>intro C1 F1
 refine zb (zb (za ?_))
 refine s_fa zdp ?_
 refine zu yA9 ?_
 refine zht ?_
 refine zf (zd ?_)
 refine zm F1 ?_ ?_<;>intro C2 F2
 refine zb (za ?_)
 refine s_mv ?_
 refine s_as ?_
 refine s_as ?_
 refine zf (zd (zh (zg (zg (zn ?_)))))
 cases F2
 exact zl [] [11] Tryz.results25
 refine zi (zd (zb (zb (za ?_))))
 refine s_mv ?_
 refine zJ yA27 yS27 ?_
 obtain ⟨v3,V3,F3⟩:=zc F2
 refine zx [] (zgs fu _ _ _ V3) ?_
 refine zf (zd ?_)
 refine zm F3 ?_ ?_<;>intro C4 F4
 refine zbj (α:=Nat × Bool) [8,9,22,23,24,25,26,27,28,29,30,31] [] [] (fun a=>[(8,.ar 11),(9,.t (.sc (.bool a.2)))]) (fun a=>[]) (fun a=>a.1≤fu∧zcA a.1  a.2=some r) ?_ ?_
 refine za ?_
 refine s_mv ?_
 refine s_fa zcT ?_
 refine zu yA3 ?_
 refine s_eq ?_
 refine s_mv ?_
 refine zo _ 26 F4 ?_ ?_<;>intro C5 F5
 refine s_mv ?_
 refine zJ yA27 yS27 ?_
 refine zJ yA27 yS27 ?_
 obtain ⟨v6,V6,F6⟩:=zc F5
 refine zx [] (m_spec_l3Same_ok fu _ _ _ _ V6) ?_
 refine zz ?_
 refine s_as ?_
 refine s_as ?_
 refine zf ?_
 exact s_jn (fu,v6) ⟨by first | omega | (dsimp only;omega),F6⟩
 iterate 4 refine r_no rfl ?_
 refine zB ?_
 refine s_as ?_
 refine s_as ?_
 refine zf ?_
 exact s_jn (fu,false) ⟨by first | omega | (dsimp only;omega),F5⟩
 clear F4
 rintro ⟨fu,g7⟩ ⟨hl8,F5⟩
 dsimp only at hl8 F5 ⊢
 obtain _ | fu:=fu
 · rw [zcA] at F5;cases F5
 rw [zcA] at F5
 refine zh (zg (zg (zn ?_)))
 cases F5
 exact zl [] [11] Tryz.results25
 refine zi (zd (zb (za ?_)))
 refine s_mv ?_
 refine zJ yA27 yS27 ?_
 refine zJ yA27 yS27 ?_
 refine zeJ yZ38 yL38 ?_
 refine s_bs Hit.row [(Hit.mk x2 0 x4 ([]:List Hit))] yP30 yR38 ?_
 obtain ⟨hk9,F5⟩:=zab F4
 refine zd4 Hit.row (fun y=>Hit.row_len y) hk9 yP30 ?_
 refine s_as ?_
 refine s_as ?_
 refine zf (zd (zh (zg (zn ?_))))
 cases F5
 exact zl [] [37] Tryz.results25
 refine zi (zd (zb (zb (za ?_))))
 refine s_fa zcT ?_
 refine zu yA3 ?_
 refine s_eq ?_
 refine zf (zd ?_)
 refine zm F1 ?_ ?_<;>intro C10 F2
 refine zb (za ?_)
 refine s_mv ?_
 refine zJ yA27 yS27 ?_
 refine zJ yA27 yS27 ?_
 obtain ⟨v11,V11,F3⟩:=zc F2
 refine zx [] (zcb fu _ _ _ V11) ?_
 refine s_as ?_
 refine s_as ?_
 refine zf (zd (zh (zg (zn ?_))))
 cases F3
 exact zl [] [11] Tryz.results25
 refine zi (zd (zb (zb (za ?_))))
 refine s_fa zcT ?_
 refine zu yA3 ?_
 refine s_ne ?_
 refine zf (zd ?_)
 refine zm F2 ?_ ?_<;>intro C12 F3
 refine zb (za ?_)
 refine s_mv ?_
 refine s_as ?_
 refine s_as ?_
 refine zf (zd (zh (zg (zn ?_))))
 cases F3
 exact zl [] [11] Tryz.results25
 refine zi (zd (zb (za ?_)))
 refine s_mv ?_
 refine s_fa zH ?_
 refine zu yA25 ?_
 refine s_mv ?_
 refine s_fa zH ?_
 refine zu yA25 ?_
 obtain ⟨v13,V13,F4⟩:=zc F3
 refine zx [] (ih_m_spec_l4List fu (by omega) _ _ _ _ _ V13) ?_
 refine zbJ ?_
 refine zbJ ?_
 refine s_as ?_
 refine s_as ?_
 refine zf (zd (zh (zn ?_)))
 cases F4
 exact zl [] [] Tryz.results25
theorem m_spec_l4List_all (fuel:Nat):zfy fuel∧zdV fuel:=by
 induction fuel using Nat.strongRecOn with
 | _ N ih =>
   cases N with
   | zero=>exact ⟨(by intro x1 x2 x3 x4 r h;rw [ze9] at h;cases h),(by intro x1 x2 x3 x4 r h;rw [zb8] at h;cases h)⟩
   | succ fu=>exact ⟨m_spec_l4List_st fu (fun k hk=>(ih k (by omega)).1) (fun k hk=>(ih k (by omega)).2),m_spec_l4Match_st fu (fun k hk=>(ih k (by omega)).1) (fun k hk=>(ih k (by omega)).2)⟩
theorem zhy (fuel:Nat):zdV fuel:=(m_spec_l4List_all fuel).2
def zea (fuel:Nat):Prop:=∀ (x1:Hit) (r:Hit),zbV fuel x1=some r→AC Tryz.prog 76 [.ag [.t (.sc (.int .i64 x1.name.kind)),.t (.sc (.str x1.name.name)),.t (.sc (.int .i64 x1.name.n)),.t (.sl (x1.name.scopes.map rI)),.t (.sl (x1.name.kids.map Form.row)),.t (.sc (.int .i64 x1.depth)),.t (.sc (.int .i64 x1.one.kind)),.t (.sc (.str x1.one.name)),.t (.sc (.int .i64 x1.one.n)),.t (.sl (x1.one.scopes.map rI)),.t (.sl (x1.one.kids.map Form.row)),.t (.sl (x1.many.map Hit.row))]] noOb (.ag [.t (.sc (.int .i64 r.name.kind)),.t (.sc (.str r.name.name)),.t (.sc (.int .i64 r.name.n)),.t (.sl (r.name.scopes.map rI)),.t (.sl (r.name.kids.map Form.row)),.t (.sc (.int .i64 r.depth)),.t (.sc (.int .i64 r.one.kind)),.t (.sc (.str r.one.name)),.t (.sc (.int .i64 r.one.n)),.t (.sl (r.one.scopes.map rI)),.t (.sl (r.one.kids.map Form.row)),.t (.sl (r.many.map Hit.row))]) noOb
theorem m_spec_l4CopyHit_st (fu:Nat) (ih_m_spec_l4CopyHit:∀ k,k≤fu→zea k):zea (fu+1):=by
 intro x1 r F0
 rw [zbV] at F0
 refine AC_i [.ag [.t (.sc (.int .i64 r.name.kind)),.t (.sc (.str r.name.name)),.t (.sc (.int .i64 r.name.n)),.t (.sl (r.name.scopes.map rI)),.t (.sl (r.name.kids.map Form.row)),.t (.sc (.int .i64 r.depth)),.t (.sc (.int .i64 r.one.kind)),.t (.sc (.str r.one.name)),.t (.sc (.int .i64 r.one.n)),.t (.sl (r.one.scopes.map rI)),.t (.sl (r.one.kids.map Form.row)),.t (.sl (r.many.map Hit.row))]] Tryz.func76 rfl Tryz.ntmps76 ?_
 intro C hC
 refine zb (za ?_)
 refine za9 ?_
 refine zR yZ38 ?_
 refine zf (zd (zb ?_))
 refine z7 yMix (by kernel_rfl) ?_
 refine s_fa zfi ?_
 refine zas yA27 yS27 ?_
 obtain ⟨v1,V1,F1⟩:=zc F0
 refine zU [(9203,2007),(9204,12007)] [] _ _ (zbW fu _ _ V1) ?_
 refine s_fa zgc ?_
 refine zu yA3 ?_
 refine s_fa yF38_2 ?_
 refine zas yA27 yS27 ?_
 obtain ⟨v2,V2,F2⟩:=zc F1
 refine zU [(9203,2012),(9204,12012)] [] _ _ (zbW fu _ _ V2) ?_
 refine zeJ yZ38 yL38 ?_
 refine zR yZ38 ?_
 refine zac yS38 ?_
 refine zar (by kernel_rfl) ?_
 refine zd (zb (zb (za ?_)))
 refine s_as ?_
 refine zf (zd (zk ?_))
 refine zgZ 3 5020 38 [.t (.sc (.int .i64 v1.kind)),.t (.sc (.str v1.name)),.t (.sc (.int .i64 v1.n)),.ar 2007,.ar 12007,.t (.sc (.int .i64 x1.depth)),.t (.sc (.int .i64 v2.kind)),.t (.sc (.str v2.name)),.t (.sc (.int .i64 v2.n)),.ar 2012,.ar 12012,.ar 5020] yI38.choose_spec ?_
 refine zap [4,14,15,16,17,18,19,20,21,22,23,24,25,26,27,28,29,30,31] [3,5020] [29,30] [5020] (fun a:Nat × Int × (List Hit)=>a.1) (fun a:Nat × Int × (List Hit)=>[(4,.t (.sc (.int .i64 a.2.1)))]) (fun a:Nat × Int × (List Hit)=>[(3,.box [.t (.sc (.int .i64 v1.kind)),.t (.sc (.str v1.name)),.t (.sc (.int .i64 v1.n)),.ar 2007,.ar 12007,.t (.sc (.int .i64 x1.depth)),.t (.sc (.int .i64 v2.kind)),.t (.sc (.str v2.name)),.t (.sc (.int .i64 v2.n)),.ar 2012,.ar 12012,.ar 5020]),(5020,.arr (a.2.2.map Hit.row) 38 true)]) (fun a:Nat × Int × (List Hit)=>a.1≤fu∧zbY a.1 x1 v1 v2 a.2.1 a.2.2=some r∧0≤a.2.1) (fu,0,([]:List Hit)) ⟨Nat.le_refl _,F2,by simp⟩ (by rfl) (by rfl) (fun _=>rfl) (zG (by conv=>lhs;whnf) (by rfl) za7) (zT (by conv=>lhs;whnf) (by rfl) (zT (by conv=>lhs;whnf) (by rfl) zaW)) (zb7 hC rfl) (by repeat (first | exact zai rfl | refine zat rfl ?_ | refine zX rfl ?_)) (by repeat (first | exact zaL | exact zam rfl | refine zau rfl ?_ | refine zY rfl ?_)) ?_
 clear F2
 rintro ⟨fu,g3,g4⟩ ⟨hl5,F3,hn_g3⟩
 dsimp only at hl5 F3 hn_g3 ⊢
 obtain _ | fu:=fu
 · rw [zbY] at F3;cases F3
 rw [zbY] at F3
 refine zb (zb (za ?_))
 refine s_mv ?_
 refine s_fa zfP ?_
 refine zu yA30 ?_
 refine zF yU30 ?_
 refine s_lt ?_
 refine zf (zd ?_)
 refine zm F3 ?_ ?_<;>intro C6 F4
 refine zW 16 (fun B7=>?_)
 refine zi (zd (zb (zk ?_)))
 refine z7 yMix (by kernel_rfl) ?_
 refine s_fa zfP ?_
 refine zu yA30 ?_
 refine s_fa zfP ?_
 refine zu yA30 ?_
 refine s_mv ?_
 obtain ⟨v8,V8,F5⟩:=zc F4
 refine zN Hit.row V8 (Hit.row_eq _) yE30 ?_
 refine zas yA38 yS38 ?_
 obtain ⟨v9,V9,F6⟩:=zc F5
 refine zx [] (ih_m_spec_l4CopyHit fu (by omega) _ _ V9) ?_
 refine s_bs Hit.row [v9] yP30 yR38 ?_
 obtain ⟨hk10,F7⟩:=zab F6
 refine zd4 Hit.row (fun y=>Hit.row_len y) hk10 yP30 ?_
 refine s_fa zfP ?_
 refine zgO yS30 ?_
 refine zar (by kernel_rfl) ?_
 refine zaa (zd (za ?_))
 refine s_mv ?_
 refine zO (zaJ C6 B7 hn_g3) ?_
 refine s_as ?_
 refine zf ?_
 exact s_rn (fu,(g3+1),(g4++[v9])) ⟨by first | omega | (dsimp only;omega),F7,by first | omega | (dsimp only;omega)⟩ [(5020,30)]
 refine zA (zq (zp (zr (zd (zb (za ?_))))))
 refine zJ yA38 yS38 ?_
 refine zac yS38 ?_
 refine zf (zd (zh (zn ?_)))
 cases F4
 exact zI [] [2007,12007,2012,12012,5020] (by rw [Tryz.results76];exact (zZ (by conv=>lhs;whnf) (by conv=>lhs;whnf) yA38 yS38 rfl zP))
theorem m_spec_l4CopyHit_all (fuel:Nat):zea fuel:=by
 induction fuel using Nat.strongRecOn with
 | _ N ih =>
   cases N with
   | zero=>exact (by intro x1 r h;rw [zbV] at h;cases h)
   | succ fu=>exact m_spec_l4CopyHit_st fu (fun k hk=>(ih k (by omega)))
theorem m_spec_l4CopyHit_ok (fuel:Nat):zea fuel:=(m_spec_l4CopyHit_all fuel)
def m_spec_l4Copy_AC (fuel:Nat):Prop:=∀ (x1:(List Hit)) (r:(List Hit)),zf1 fuel x1=some r→AC Tryz.prog 26 [.t (.sl (x1.map Hit.row))] (objs []) (.ar 9200) (objs [(9200,.arr (r.map Hit.row) 38 true)])
theorem m_spec_l4Copy_ok (fuel:Nat):m_spec_l4Copy_AC fuel:=by
 intro x1 r F0
 unfold zf1 at F0
 refine AC_i [.ar 9200] Tryz.func26 rfl Tryz.ntmps26 ?_
 intro C hC
 refine zb (za ?_)
 refine s_as ?_
 refine zf (zd (zb (za ?_)))
 refine s_bs Hit.row ([]:List Hit) yP30 yR38 ?_
 refine s_as ?_
 refine zf (zd (zb (zb (za ?_))))
 refine s_as ?_
 refine zf (zd (zk ?_))
 refine zdl 3 5 5020 (by conv=>lhs;whnf) (by conv=>lhs;whnf) rfl ?_
 refine zap [3,4,6,7,8,9,10,11,12,13,14,15,16,17,18,19] [5020] [18,19] [5020] (fun a:Nat × (List Hit) × Int=>a.1) (fun a:Nat × (List Hit) × Int=>[(3,.ar 5020),(4,.t (.sc (.int .i64 a.2.2)))]) (fun a:Nat × (List Hit) × Int=>[(5020,.arr (a.2.1.map Hit.row) 38 true)]) (fun a:Nat × (List Hit) × Int=>a.1≤fuel∧zc0 a.1 x1 a.2.1 a.2.2=some r∧0≤a.2.2) (fuel,([]:List Hit),0) ⟨Nat.le_refl _,F0,by simp⟩ (by rfl) (by rfl) (fun _=>rfl) (zG (by conv=>lhs;whnf) (by rfl) (zG (by conv=>lhs;whnf) (by rfl) za7)) (zT (by conv=>lhs;whnf) (by rfl) zaW) (zb7 hC rfl) (by repeat (first | exact zai rfl | refine zat rfl ?_ | refine zX rfl ?_)) (by repeat (first | exact zaL | exact zam rfl | refine zau rfl ?_ | refine zY rfl ?_)) ?_
 clear F0
 rintro ⟨fu,g1,g2⟩ ⟨hl3,F1,hn_g2⟩
 dsimp only at hl3 F1 hn_g2 ⊢
 obtain _ | fu:=fu
 · rw [zc0] at F1;cases F1
 rw [zc0] at F1
 refine zb (zb (za ?_))
 refine s_mv ?_
 refine s_mv ?_
 refine zF yU30 ?_
 refine s_lt ?_
 refine zf (zd ?_)
 refine zm F1 ?_ ?_<;>intro C4 F2
 refine zW 0 (fun B5=>?_)
 refine zi (zd (zb (zk (za ?_))))
 iterate 3 refine s_mv ?_
 obtain ⟨v6,V6,F3⟩:=zc F2
 refine zN Hit.row V6 (Hit.row_eq _) yE30 ?_
 refine zas yA38 yS38 ?_
 obtain ⟨v7,V7,F4⟩:=zc F3
 refine zx [] (m_spec_l4CopyHit_ok fu _ _ V7) ?_
 refine s_bs Hit.row [v7] yP30 yR38 ?_
 obtain ⟨hk8,F5⟩:=zab F4
 refine zd4 Hit.row (fun y=>Hit.row_len y) hk8 yP30 ?_
 refine s_as ?_
 refine zf (zaa (zd (za ?_)))
 refine s_mv ?_
 refine zO (zaJ C4 B5 hn_g2) ?_
 refine s_as ?_
 refine zf ?_
 exact s_rn (fu,(g1++[v7]),(g2+1)) ⟨by first | omega | (dsimp only;omega),F5,by first | omega | (dsimp only;omega)⟩ [(5020,19)]
 refine zA (zq (zp (zr (zd (zb (za ?_))))))
 refine s_mv ?_
 refine s_as ?_
 refine zf (zd ?_)
 refine zdl 2 5020 9200 (by conv=>lhs;whnf) (by conv=>lhs;whnf) rfl ?_
 refine zh (zn ?_)
 cases F2
 exact zl _ [] Tryz.results26
def m_spec_MatchPattern_AC (fuel:Nat):Prop:=∀ (x1:(List Bind)) (x2:Form) (x3:(List Form)) (x4:Form) (r:((List Hit) × Bool)),zds fuel x1 x2 x3 x4=some r→AC Tryz.prog 7 [.t (.sl (x1.map Bind.row)),.ag [.t (.sc (.int .i64 x2.kind)),.t (.sc (.str x2.name)),.t (.sc (.int .i64 x2.n)),.t (.sl (x2.scopes.map rI)),.t (.sl (x2.kids.map Form.row))],.t (.sl (x3.map Form.row)),.ag [.t (.sc (.int .i64 x4.kind)),.t (.sc (.str x4.name)),.t (.sc (.int .i64 x4.n)),.t (.sl (x4.scopes.map rI)),.t (.sl (x4.kids.map Form.row))]] (objs []) (.tp [.ar 9200,.t (.sc (.bool r.2))]) (objs [(9200,.arr (r.1.map Hit.row) 38 true)])
theorem m_spec_MatchPattern_ok (fuel:Nat):m_spec_MatchPattern_AC fuel:=by
 intro x1 x2 x3 x4 r F0
 unfold zds at F0
 refine AC_i [.ar 9200,.t (.sc (.bool r.2))] Tryz.func7 rfl Tryz.ntmps7 ?_
 intro C hC
 refine zb (za ?_)
 refine za9 ?_
 refine za9 ?_
 refine s_as ?_
 refine s_as ?_
 refine zf (zd (zb ?_))
 refine zbj (α:=Nat × Bool) [12,13,14,15,16,17,18,19,20,21,22,23,24,25] [] [] (fun a=>[(25,.t (.sc (.bool a.2)))]) (fun a=>[]) (fun a=>a.1≤fuel∧zaI a.1 x1 x2 x3 x4 a.2=some r) ?_ ?_
 refine za ?_
 refine s_mv ?_
 obtain ⟨v1,V1,F1⟩:=zc F0
 refine zx [] (zgM fuel _ _ V1) ?_
 refine zbq ?_
 refine s_mv ?_
 refine zo _ 15 F1 ?_ ?_<;>intro C2 F2
 iterate 4 refine r_no rfl ?_
 refine zz ?_
 refine s_mv ?_
 iterate 3 refine r_no rfl ?_
 refine zz ?_
 refine zf ?_
 exact s_jn (fuel,true) ⟨by first | omega | (dsimp only;omega),F2⟩
 refine zJ yA27 yS27 ?_
 refine s_mv ?_
 obtain ⟨v3,V3,F3⟩:=zc F2
 refine zx [] (m_spec_l4Is_ok fuel _ _ _ V3) ?_
 refine zbq ?_
 refine zB ?_
 refine s_mv ?_
 refine zo _ 21 F3 ?_ ?_<;>intro C4 F4
 iterate 3 refine r_no rfl ?_
 refine zz ?_
 refine zf ?_
 exact s_jn (fuel,true) ⟨by first | omega | (dsimp only;omega),F4⟩
 refine zJ yA27 yS27 ?_
 obtain ⟨v5,V5,F5⟩:=zc F4
 refine zx [] (zaQ fuel _ _ V5) ?_
 refine zbq ?_
 refine zB ?_
 refine zf ?_
 exact s_jn (fuel,(!v5)) ⟨by first | omega | (dsimp only;omega),F5⟩
 clear F0
 rintro ⟨fu,g6⟩ ⟨hl7,F1⟩
 dsimp only at hl7 F1 ⊢
 obtain _ | fu:=fu
 · rw [zaI] at F1;cases F1
 rw [zaI] at F1
 refine zm F1 ?_ ?_<;>intro C8 F2
 refine zb (za ?_)
 refine s_bs Hit.row ([]:List Hit) yP30 yR38 ?_
 refine s_as ?_
 refine s_as ?_
 refine zf (zd ?_)
 refine zdl 8 26 9200 (by conv=>lhs;whnf) (by conv=>lhs;whnf) rfl ?_
 refine zh (zg (zn ?_))
 cases F2
 exact zl _ [] Tryz.results7
 refine zi (zd (zb (za ?_)))
 refine s_mv ?_
 refine zJ yA27 yS27 ?_
 refine s_mv ?_
 refine zJ yA27 yS27 ?_
 obtain ⟨v9,V9,F3⟩:=zc F2
 refine zx [] (zhy fu _ _ _ _ _ V9) ?_
 refine s_mv ?_
 refine zbJ ?_
 refine zbJ ?_
 refine s_as ?_
 refine s_as ?_
 refine zf (zd (zb (zb (za ?_))))
 refine s_mv ?_
 refine zbq ?_
 refine zf (zd ?_)
 refine zm F3 ?_ ?_<;>intro C10 F4
 refine zb (za ?_)
 refine s_bs Hit.row ([]:List Hit) yP30 yR38 ?_
 refine s_as ?_
 refine s_as ?_
 refine zf (zd ?_)
 refine zdl 8 37 9200 (by conv=>lhs;whnf) (by conv=>lhs;whnf) rfl ?_
 refine zh (zg (zn ?_))
 cases F4
 exact zl _ [] Tryz.results7
 refine zi (zd (zb (za ?_)))
 refine s_mv ?_
 obtain ⟨v11,V11,F5⟩:=zc F4
 refine zU [(9200,2039)] [] _ _ (m_spec_l4Copy_ok fu _ _ V11) ?_
 refine s_as ?_
 refine s_as ?_
 refine zf (zd ?_)
 refine zdl 8 2039 9200 (by conv=>lhs;whnf) (by conv=>lhs;whnf) rfl ?_
 refine zh (zn ?_)
 cases F5
 exact zl _ [] Tryz.results7
def zgS (fuel:Nat):Prop:=∀ (x1:(List Int)) (x2:Int) (r:Int × Bool),zdP fuel x1 x2=some r→AC Tryz.prog 78 [.ar 9300,.t (.sc (.int .i64 x2))] (objs [(9300,.arr (x1.map rI) 3 true)]) (.tp [.t (.sc (.int .i64 r.1)),.t (.sc (.bool r.2))]) (objs [(9300,.arr (x1.map rI) 3 true)])
theorem zgR (fuel:Nat):zgS fuel:=by
 intro x1 x2 r h
 obtain ⟨h0,h⟩:=zab h
 obtain ⟨h1,h⟩:=zab h
 obtain rfl:=Option.some.inj h
 exact ac_search x1 x2 ⟨_,Tryz.func78,by kernel_rfl,by kernel_rfl⟩ (by kernel_rfl) (fun b c w hc=>Tryz.slices_BinarySearch_int b 0 x1.length c x1 x2 w (Nat.le_refl _) (by simpa using h0) hc (by simpa using h1)) (fun A c w=>Tryz.slices_BinarySearch_int_empty A c x2 w)
def m_slices_Insert_int_AC (fuel:Nat):Prop:=∀ (x1:(List Int)) (x2:Int) (x3:(List Int)) (r:(List Int)),zfJ fuel x1 x2 x3=some r→AC Tryz.prog 79 [.ar 9300,.t (.sc (.int .i64 x2)),.ar 9302] (objs [(9300,.arr (x1.map rI) 3 true),(9302,.arr (x3.map rI) 3 true)]) (.ar 9200) (objs [(9300,.dead),(9302,.arr (x3.map rI) 3 true),(9200,.arr (r.map rI) 3 true)])
theorem m_slices_Insert_int_ok (fuel:Nat):m_slices_Insert_int_AC fuel:=by
 intro x1 x2 x3 r h
 obtain ⟨h0,h⟩:=zab h
 obtain ⟨h1,h⟩:=zab h
 obtain ⟨h2,h⟩:=zab h
 obtain ⟨h3,h⟩:=zab h
 obtain rfl:=Option.some.inj h
 simp only [decide_eq_true_eq] at h0 h1 h2 h3
 obtain ⟨i,rfl⟩:=Int.eq_ofNat_of_zero_le h0
 obtain ⟨v,rfl⟩:=List.length_eq_one_iff.1 h3
 have hi:i≤x1.length:=Int.ofNat_le.1 h1
 have:=ac_insert (P:=Tryz.prog) (f:=79) (e:=3) x1 i v hi ⟨_,Tryz.func79,by kernel_rfl,by kernel_rfl⟩ (by kernel_rfl) h2
   (fun b n c i vb vc cs vs w=>fun a1 a2 a3 a4 a5 a6 a7 a8 a9 a10 a11 a12 tA tB kA kB a13 a14 a15 a16 a17=>Any2.slices_Insert_int_shift Tryz.laysNm221 b 0 n c i vb 0 1 vc cs vs w a1 (by decide) a2 a3 a4 a5 a6 a7 a8 a9 a10 a11 a12 tA tB kA kB a13 a14 a15 a16 a17)
   (fun b n c vb vc vs w a1 a2 a3 a4 a5 a6 a7=>Any2.slices_Insert_int_end_room Tryz.laysNm221 b 0 n c vb 0 1 vc vs w (by decide) a1 a2 a3 a4 a5 a6 a7)
   (fun base n c vb vc cs vs w a1 a2 a3 a4 a5 a6 a7 a8 a9=>Any2.slices_Insert_int_end_grow Tryz.laysNm221 base n c vb 0 1 vc cs vs w (by decide) a1 a2 a3 a4 a5 a6 a7 a8 a9)
   (fun b n c i vb vc cs vs w a1 a2 a3 a4 a5 a6 a7 a8 a9 a10=>Any2.slices_Insert_int_grow Tryz.laysNm221 b 0 n c i vb 0 1 vc cs vs w a1 (by decide) a2 a3 a4 a5 a6 a7 a8 a9 a10)
 simpa using this
def m_impl_withScope_AC (fuel:Nat):Prop:=∀ (x1:(List Int)) (x2:Int) (r:(List Int)),zey fuel x1 x2=some r→AC Tryz.prog 29 [.ar 9300,.t (.sc (.int .i64 x2))] (objs [(9300,.arr (x1.map rI) 3 true)]) (.ar 9200) (objs [(9300,.dead),(9200,.arr (r.map rI) 3 true)])
theorem m_impl_withScope_ok (fuel:Nat):m_impl_withScope_AC fuel:=by
 intro x1 x2 r F0
 unfold zey at F0
 refine AC_i [.ar 9200] Tryz.func29 rfl Tryz.ntmps29 ?_
 intro C hC
 refine zb (za ?_)
 refine s_as ?_
 refine zf (zd (zb (za ?_)))
 refine s_mv ?_
 refine s_mv ?_
 obtain ⟨v1,V1,F1⟩:=zc F0
 refine zU [(9300,9300)] [] _ _ (zgR fuel _ _ _ V1) ?_
 refine s_mv ?_
 refine zbJ ?_
 refine zbJ ?_
 refine s_as ?_
 refine s_as ?_
 refine zf (zd (zb (zb (za ?_))))
 refine s_mv ?_
 refine zf (zd ?_)
 refine zm F1 ?_ ?_<;>intro C2 F2
 refine zb (za ?_)
 refine s_mv ?_
 refine s_as ?_
 refine zf (zd ?_)
 refine zdl 4 9300 9200 (by conv=>lhs;whnf) (by conv=>lhs;whnf) rfl ?_
 refine zh (zg (zn ?_))
 cases F2
 exact zl _ [] Tryz.results29
 refine zi (zd (zb (za ?_)))
 iterate 3 refine s_mv ?_
 refine s_bs rI [x2] yP24 yR3 ?_
 obtain ⟨v3,V3,F3⟩:=zc F2
 refine zU [(9300,9300),(9302,18),(9200,22019)] [] _ _ (m_slices_Insert_int_ok fuel _ _ _ _ V3) ?_
 refine s_as ?_
 refine zf (zd ?_)
 refine zdl 4 22019 9200 (by conv=>lhs;whnf) (by conv=>lhs;whnf) rfl ?_
 refine zh (zn ?_)
 cases F3
 exact zl _ [] Tryz.results29
def m_impl_AddScope_1_AC (fuel:Nat):Prop:=∀ (x1:(List Int)) (o1:Int) (r:(List Int)),zfg fuel x1 o1=some r→AC Tryz.prog 28 [.ar 9300,.rf 9000 0] (objs [(9300,.arr (x1.map rI) 3 true),(9000,.box [.t (.sc (.int .i64 o1))])]) (.t (.sl (r.map rI))) (objs [(9300,.dead),(9000,.box [.t (.sc (.int .i64 o1))])])
theorem m_impl_AddScope_1_ok (fuel:Nat):m_impl_AddScope_1_AC fuel:=by
 intro x1 o1 r F0
 unfold zfg at F0
 refine AC_i [.t (.sl (r.map rI))] Tryz.func28 rfl Tryz.ntmps28 ?_
 intro C hC
 refine zb (za ?_)
 refine s_as ?_
 refine zf (zd (zb (za ?_)))
 refine s_mv ?_
 refine zu yA3 ?_
 obtain ⟨v1,V1,F1⟩:=zc F0
 refine zU [(9300,9300),(9200,12006)] [] _ _ (m_impl_withScope_ok fuel _ _ _ V1) ?_
 refine s_as ?_
 refine zf (zd (zh (zn ?_)))
 cases F1
 exact zl _ [12006] Tryz.results28
def zb6 (fuel:Nat):Prop:=∀ (x1:Form) (o1:Int) (r:Form),zaE fuel x1 o1=some r→AC Tryz.prog 77 [.ag [.t (.sc (.int .i64 x1.kind)),.t (.sc (.str x1.name)),.t (.sc (.int .i64 x1.n)),.t (.sl (x1.scopes.map rI)),.t (.sl (x1.kids.map Form.row))],.fn 28 [.rf 9000 0]] (objs [(9000,.box [.t (.sc (.int .i64 o1))])]) (.ag [.t (.sc (.int .i64 r.kind)),.t (.sc (.str r.name)),.t (.sc (.int .i64 r.n)),.t (.sl (r.scopes.map rI)),.t (.sl (r.kids.map Form.row))]) (objs [(9000,.box [.t (.sc (.int .i64 o1))])])
theorem zgV (fu:Nat) (ih_m_impl_dressed_AddScope_1:∀ k,k≤fu→zb6 k):zb6 (fu+1):=by
 intro x1 o1 r F0
 rw [zaE] at F0
 refine AC_i [.ag [.t (.sc (.int .i64 r.kind)),.t (.sc (.str r.name)),.t (.sc (.int .i64 r.n)),.t (.sl (r.scopes.map rI)),.t (.sl (r.kids.map Form.row))]] Tryz.func77 rfl Tryz.ntmps77 ?_
 intro C hC
 refine zb (za ?_)
 refine za9 ?_
 refine zR yZ27 ?_
 refine zf (zd (zb (za ?_)))
 refine s_fa zcT ?_
 refine zu yA3 ?_
 refine s_fa zdp ?_
 refine zu yA9 ?_
 refine s_fa zgd ?_
 refine zu yA3 ?_
 refine zeJ yZ27 yL27 ?_
 refine zR yZ27 ?_
 refine zac yS27 ?_
 refine zf (zd ?_)
 refine zbj (α:=Nat × (List Int)) [15,16,17,18,19,20,21,22,23] [5] [2021] (fun a=>[]) (fun a=>[(5,.box [.t (.sc (.int .i64 x1.kind)),.t (.sc (.str x1.name)),.t (.sc (.int .i64 x1.n)),.t (.sl (a.2.map rI)),.nl])]) (fun a=>a.1≤fu∧zaB a.1 x1 o1 a.2=some r) ?_ ?_
 refine zb (za ?_)
 refine s_fa zcT ?_
 refine zu yA3 ?_
 refine s_eq ?_
 refine zf (zd ?_)
 refine zm F0 ?_ ?_<;>intro C1 F1
 refine awp_nlB 5 3 [.t (.sc (.int .i64 x1.kind)),.t (.sc (.str x1.name)),.t (.sc (.int .i64 x1.n)),.t (.sl (([]:List Int).map rI)),.nl] (by conv=>lhs;whnf) rfl rfl ?_
 refine za ?_
 refine s_mv ?_
 refine s_fa zeR ?_
 refine zu yA24 ?_
 obtain ⟨v2,V2,F2⟩:=zc F1
 refine zU [(9200,2021)] [] _ _ (zgz fu _ _ V2) ?_
 obtain ⟨v3,V3,F3⟩:=zc F2
 refine zU [(9300,2021),(9000,9000)] [] _ _ (m_impl_AddScope_1_ok fu _ _ _ V3) ?_
 refine s_fa zeR ?_
 refine zgO yS24 ?_
 refine zf ?_
 exact s_jn (fu,v3) ⟨by first | omega | (dsimp only;omega),F3⟩
 refine awp_nlB 5 3 [.t (.sc (.int .i64 x1.kind)),.t (.sc (.str x1.name)),.t (.sc (.int .i64 x1.n)),.t (.sl (([]:List Int).map rI)),.nl] (by conv=>lhs;whnf) rfl rfl ?_
 refine zi ?_
 exact s_jn (fu,([]:List Int)) ⟨by first | omega | (dsimp only;omega),F1⟩
 clear F0
 rintro ⟨fu,g4⟩ ⟨hl5,F1⟩
 dsimp only at hl5 F1 ⊢
 obtain _ | fu:=fu
 · rw [zaB] at F1;cases F1
 rw [zaB] at F1
 refine zb (zb (za ?_))
 refine s_fa zH ?_
 refine zu yA25 ?_
 refine zF yU25 ?_
 refine s_mv ?_
 refine zf (zd (zk ?_))
 refine zgZ 5 5040 27 [.t (.sc (.int .i64 x1.kind)),.t (.sc (.str x1.name)),.t (.sc (.int .i64 x1.n)),.t (.sl (g4.map rI)),.ar 5040] yI27.choose_spec ?_
 refine zap [7,27,28,29,30,31,32,33,34,35,36,37,38,39] [5,5040] [7,36,37] [5040] (fun a:Nat × Int × (List Form)=>a.1) (fun a:Nat × Int × (List Form)=>[(27,.t (.sc (.int .i64 a.2.1)))]) (fun a:Nat × Int × (List Form)=>[(5,.box [.t (.sc (.int .i64 x1.kind)),.t (.sc (.str x1.name)),.t (.sc (.int .i64 x1.n)),.t (.sl (g4.map rI)),.ar 5040]),(5040,.arr (a.2.2.map Form.row) 27 true)]) (fun a:Nat × Int × (List Form)=>a.1≤fu∧zaA a.1 x1 o1 g4 a.2.1 a.2.2=some r∧0≤a.2.1) (fu,0,([]:List Form)) ⟨Nat.le_refl _,F1,by simp⟩ (by rfl) (by rfl) (fun _=>rfl) (zG (by conv=>lhs;whnf) (by rfl) za7) (zT (by conv=>lhs;whnf) (by rfl) (zT (by conv=>lhs;whnf) (by rfl) zaW)) (zb7 hC rfl) (by repeat (first | exact zai rfl | refine zat rfl ?_ | refine zX rfl ?_)) (by repeat (first | exact zaL | exact zam rfl | refine zau rfl ?_ | refine zY rfl ?_)) ?_
 clear F1
 rintro ⟨fu,g6,g7⟩ ⟨hl8,F2,hn_g6⟩
 dsimp only at hl8 F2 hn_g6 ⊢
 obtain _ | fu:=fu
 · rw [zaA] at F2;cases F2
 rw [zaA] at F2
 refine zb (za ?_)
 refine s_lt ?_
 refine zf (zd (zb ?_))
 refine zm F2 ?_ ?_<;>intro C9 F3
 refine zW 25 (fun B10=>?_)
 refine zi (zd (zb (zk (zb (za ?_)))))
 obtain ⟨v11,V11,F4⟩:=zc F3
 refine zN Form.row V11 (Form.row_eq _) yE25 ?_
 refine zas yA27 yS27 ?_
 refine zR yZ27 ?_
 refine zac yS27 ?_
 refine zf (zd ?_)
 refine z7 yMix (by kernel_rfl) ?_
 refine s_fa zH ?_
 refine zu yA25 ?_
 refine zJ yA27 yS27 ?_
 refine s_mv ?_
 obtain ⟨v12,V12,F5⟩:=zc F4
 refine zU [(9000,9000)] [] _ _ (ih_m_impl_dressed_AddScope_1 fu (by omega) _ _ _ V12) ?_
 refine s_bs Form.row [v12] yP25 yR27 ?_
 obtain ⟨hk13,F6⟩:=zab F5
 refine zd4 Form.row (fun y=>Form.row_len y) hk13 yP25 ?_
 refine s_fa zH ?_
 refine zgO yS25 ?_
 refine zar (by kernel_rfl) ?_
 refine zaa (zd (za ?_))
 refine zO (zaJ C9 B10 hn_g6) ?_
 refine s_mv ?_
 refine zf ?_
 exact s_rn (fu,(g6+1),(g7++[v12])) ⟨by first | omega | (dsimp only;omega),F6,by first | omega | (dsimp only;omega)⟩ [(5040,37)]
 refine zA (zq (zp (zr (zd (zb (za ?_))))))
 refine zJ yA27 yS27 ?_
 refine zac yS27 ?_
 refine zf (zd (zh (zn ?_)))
 cases F3
 exact zI _ [5040] (by rw [Tryz.results77];exact (zZ (by conv=>lhs;whnf) (by conv=>lhs;whnf) yA27 yS27 rfl zP))
theorem zgI (fuel:Nat):zb6 fuel:=by
 induction fuel using Nat.strongRecOn with
 | _ N ih =>
   cases N with
   | zero=>exact (by intro x1 o1 r h;rw [zaE] at h;cases h)
   | succ fu=>exact zgV fu (fun k hk=>(ih k (by omega)))
theorem zgW (fuel:Nat):zb6 fuel:=(zgI fuel)
def m_impl_formOr_AC (fuel:Nat):Prop:=∀ (x1:Form) (r:(Form × Bool)),zff fuel x1=some r→AC Tryz.prog 39 [.ag [.t (.sc (.int .i64 x1.kind)),.t (.sc (.str x1.name)),.t (.sc (.int .i64 x1.n)),.t (.sl (x1.scopes.map rI)),.t (.sl (x1.kids.map Form.row))]] noOb (.tp [.ag [.t (.sc (.int .i64 r.1.kind)),.t (.sc (.str r.1.name)),.t (.sc (.int .i64 r.1.n)),.t (.sl (r.1.scopes.map rI)),.t (.sl (r.1.kids.map Form.row))],.t (.sc (.bool r.2))]) noOb
theorem m_impl_formOr_ok (fuel:Nat):m_impl_formOr_AC fuel:=by
 intro x1 r F0
 unfold zff at F0
 refine AC_i [.ag [.t (.sc (.int .i64 r.1.kind)),.t (.sc (.str r.1.name)),.t (.sc (.int .i64 r.1.n)),.t (.sl (r.1.scopes.map rI)),.t (.sl (r.1.kids.map Form.row))],.t (.sc (.bool r.2))] Tryz.func39 rfl Tryz.ntmps39 ?_
 intro C hC
 refine zb (za ?_)
 refine za9 ?_
 refine zR yZ27 ?_
 refine s_as ?_
 refine zf (zd (zb (zb (za ?_))))
 refine zJ yA27 yS27 ?_
 obtain ⟨v1,V1,F1⟩:=zc F0
 refine zx [] (zdv fuel _ _ V1) ?_
 refine zbq ?_
 refine zf (zd ?_)
 refine zm F1 ?_ ?_<;>intro C2 F2
 refine zb (za ?_)
 refine zeJ yZ27 yL27 ?_
 refine zac yS27 ?_
 refine s_as ?_
 refine zf (zd (zh (zg (zn ?_))))
 cases F2
 exact zI [] [] (by rw [Tryz.results39];exact (zZ (by conv=>lhs;whnf) (by conv=>lhs;whnf) yA27 yS27 rfl (zah (by conv=>lhs;whnf) zP)))
 refine zi (zd (zb (za ?_)))
 refine zJ yA27 yS27 ?_
 obtain ⟨v3,V3,F3⟩:=zc F2
 refine zx [] (zf9 fuel _ _ V3) ?_
 refine zac yS27 ?_
 refine s_as ?_
 refine zf (zd (zh (zn ?_)))
 cases F3
 exact zI [] [] (by rw [Tryz.results39];exact (zZ (by conv=>lhs;whnf) (by conv=>lhs;whnf) yA27 yS27 rfl (zah (by conv=>lhs;whnf) zP)))
def zgH (fuel:Nat):Prop:=∀ (x1:Form) (x2:Int) (o1:Int) (r:(Form × Bool)),zcy fuel x1 x2 o1=some r→AC Tryz.prog 27 [.ag [.t (.sc (.int .i64 x1.kind)),.t (.sc (.str x1.name)),.t (.sc (.int .i64 x1.n)),.t (.sl (x1.scopes.map rI)),.t (.sl (x1.kids.map Form.row))],.t (.sc (.int .i64 x2)),.fn 28 [.rf 9000 0]] (objs [(9000,.box [.t (.sc (.int .i64 o1))])]) (.tp [.ag [.t (.sc (.int .i64 r.1.kind)),.t (.sc (.str r.1.name)),.t (.sc (.int .i64 r.1.n)),.t (.sl (r.1.scopes.map rI)),.t (.sl (r.1.kids.map Form.row))],.t (.sc (.bool r.2))]) (objs [(9000,.box [.t (.sc (.int .i64 o1))])])
theorem zgG (fuel:Nat):zgH fuel:=by
 intro x1 x2 o1 r F0
 unfold zcy at F0
 refine AC_i [.ag [.t (.sc (.int .i64 r.1.kind)),.t (.sc (.str r.1.name)),.t (.sc (.int .i64 r.1.n)),.t (.sl (r.1.scopes.map rI)),.t (.sl (r.1.kids.map Form.row))],.t (.sc (.bool r.2))] Tryz.func27 rfl Tryz.ntmps27 ?_
 intro C hC
 refine zb (za ?_)
 refine za9 ?_
 refine zR yZ27 ?_
 refine s_as ?_
 refine zf (zd (zb ?_))
 refine zbj (α:=Nat × Bool) [8,9,10,11,12,13,14,15] [] [] (fun a=>[(15,.t (.sc (.bool a.2)))]) (fun a=>[]) (fun a=>a.1≤fuel∧zal a.1 x1 o1 a.2=some r) ?_ ?_
 refine za ?_
 refine zJ yA27 yS27 ?_
 obtain ⟨v1,V1,F1⟩:=zc F0
 refine zx [] (zdv fuel _ _ V1) ?_
 refine zbq ?_
 refine s_mv ?_
 refine zo _ 11 F1 ?_ ?_<;>intro C2 F2
 iterate 3 refine r_no rfl ?_
 refine zz ?_
 refine zf ?_
 exact s_jn (fuel,true) ⟨by first | omega | (dsimp only;omega),F2⟩
 refine s_mv ?_
 obtain ⟨v3,V3,F3⟩:=zc F2
 refine zx [] (zex fuel _ _ _ _ V3) ?_
 refine zbq ?_
 refine zB ?_
 refine zf ?_
 exact s_jn (fuel,(!v3)) ⟨by first | omega | (dsimp only;omega),F3⟩
 clear F0
 rintro ⟨fu,g4⟩ ⟨hl5,F1⟩
 dsimp only at hl5 F1 ⊢
 obtain _ | fu:=fu
 · rw [zal] at F1;cases F1
 rw [zal] at F1
 refine zm F1 ?_ ?_<;>intro C6 F2
 refine zb (za ?_)
 refine zeJ yZ27 yL27 ?_
 refine zac yS27 ?_
 refine s_as ?_
 refine zf (zd (zh (zg (zn ?_))))
 cases F2
 exact zI _ [] (by rw [Tryz.results27];exact (zZ (by conv=>lhs;whnf) (by conv=>lhs;whnf) yA27 yS27 rfl (zah (by conv=>lhs;whnf) zP)))
 refine zi (zd (zb (za ?_)))
 refine zJ yA27 yS27 ?_
 refine s_mv ?_
 obtain ⟨v7,V7,F3⟩:=zc F2
 refine zU [(9000,9000)] [] _ _ (zgW fu _ _ _ V7) ?_
 obtain ⟨v8,V8,F4⟩:=zc F3
 refine zx [] (m_impl_formOr_ok fu _ _ V8) ?_
 refine zbJ ?_
 refine zbJ ?_
 refine zac yS27 ?_
 refine s_as ?_
 refine zf (zd (zh (zn ?_)))
 cases F4
 exact zI _ [] (by rw [Tryz.results27];exact (zZ (by conv=>lhs;whnf) (by conv=>lhs;whnf) yA27 yS27 rfl (zah (by conv=>lhs;whnf) zP)))
def m_impl_AddScope_AC (fuel:Nat):Prop:=∀ (x1:Form) (x2:Int) (r:(Form × Bool)),zdZ fuel x1 x2=some r→AC Tryz.prog 8 [.ag [.t (.sc (.int .i64 x1.kind)),.t (.sc (.str x1.name)),.t (.sc (.int .i64 x1.n)),.t (.sl (x1.scopes.map rI)),.t (.sl (x1.kids.map Form.row))],.t (.sc (.int .i64 x2))] noOb (.tp [.ag [.t (.sc (.int .i64 r.1.kind)),.t (.sc (.str r.1.name)),.t (.sc (.int .i64 r.1.n)),.t (.sl (r.1.scopes.map rI)),.t (.sl (r.1.kids.map Form.row))],.t (.sc (.bool r.2))]) noOb
theorem zhg (fuel:Nat):m_impl_AddScope_AC fuel:=by
 intro x1 x2 r F0
 unfold zdZ at F0
 refine AC_i [.ag [.t (.sc (.int .i64 r.1.kind)),.t (.sc (.str r.1.name)),.t (.sc (.int .i64 r.1.n)),.t (.sl (r.1.scopes.map rI)),.t (.sl (r.1.kids.map Form.row))],.t (.sc (.bool r.2))] Tryz.func8 rfl Tryz.ntmps8 ?_
 intro C hC
 refine zb (za ?_)
 refine za9 ?_
 refine za9 ?_
 refine zR yZ27 ?_
 refine s_as ?_
 refine zf (zd (zb (za ?_)))
 refine zJ yA27 yS27 ?_
 refine zu yA3 ?_
 refine s_fn ?_
 obtain ⟨v1,V1,F1⟩:=zc F0
 refine zU [(9000,3)] [] _ _ (zgG fuel _ _ _ _ V1) ?_
 refine zbJ ?_
 refine zbJ ?_
 refine zac yS27 ?_
 refine s_as ?_
 refine zf (zd (zh (zn ?_)))
 cases F1
 exact zI [] [] (by rw [Tryz.results8];exact (zZ (by conv=>lhs;whnf) (by conv=>lhs;whnf) yA27 yS27 rfl (zah (by conv=>lhs;whnf) zP)))
def zdu (fuel:Nat):Prop:=∀ (x1:Hit) (r:Bool),zd6 fuel x1=some r→AC Tryz.prog 32 [.ag [.t (.sc (.int .i64 x1.name.kind)),.t (.sc (.str x1.name.name)),.t (.sc (.int .i64 x1.name.n)),.t (.sl (x1.name.scopes.map rI)),.t (.sl (x1.name.kids.map Form.row)),.t (.sc (.int .i64 x1.depth)),.t (.sc (.int .i64 x1.one.kind)),.t (.sc (.str x1.one.name)),.t (.sc (.int .i64 x1.one.n)),.t (.sl (x1.one.scopes.map rI)),.t (.sl (x1.one.kids.map Form.row)),.t (.sl (x1.many.map Hit.row))]] noOb (.t (.sc (.bool r))) noOb
def zdo (fuel:Nat):Prop:=∀ (x1:Hit) (o1:Hit) (r:Bool),zdQ fuel x1 o1=some r→AC Tryz.prog 82 [.ag [.t (.sc (.int .i64 x1.name.kind)),.t (.sc (.str x1.name.name)),.t (.sc (.int .i64 x1.name.n)),.t (.sl (x1.name.scopes.map rI)),.t (.sl (x1.name.kids.map Form.row)),.t (.sc (.int .i64 x1.depth)),.t (.sc (.int .i64 x1.one.kind)),.t (.sc (.str x1.one.name)),.t (.sc (.int .i64 x1.one.n)),.t (.sl (x1.one.scopes.map rI)),.t (.sl (x1.one.kids.map Form.row)),.t (.sl (x1.many.map Hit.row))],.rf 9000 0] (objs [(9000,.box [.t (.sc (.int .i64 o1.name.kind)),.t (.sc (.str o1.name.name)),.t (.sc (.int .i64 o1.name.n)),.t (.sl (o1.name.scopes.map rI)),.t (.sl (o1.name.kids.map Form.row)),.t (.sc (.int .i64 o1.depth)),.t (.sc (.int .i64 o1.one.kind)),.t (.sc (.str o1.one.name)),.t (.sc (.int .i64 o1.one.n)),.t (.sl (o1.one.scopes.map rI)),.t (.sl (o1.one.kids.map Form.row)),.t (.sl (o1.many.map Hit.row))])]) (.t (.sc (.bool r))) (objs [(9000,.box [.t (.sc (.int .i64 o1.name.kind)),.t (.sc (.str o1.name.name)),.t (.sc (.int .i64 o1.name.n)),.t (.sl (o1.name.scopes.map rI)),.t (.sl (o1.name.kids.map Form.row)),.t (.sc (.int .i64 o1.depth)),.t (.sc (.int .i64 o1.one.kind)),.t (.sc (.str o1.one.name)),.t (.sc (.int .i64 o1.one.n)),.t (.sl (o1.one.scopes.map rI)),.t (.sl (o1.one.kids.map Form.row)),.t (.sl (o1.many.map Hit.row))])])
def zan (fuel:Nat):Prop:=∀ (x1:(List Hit)) (o1:Hit) (r:Bool),zaP fuel x1 o1=some r→AC Tryz.prog 81 [.t (.sl (x1.map Hit.row)),.fn 82 [.rf 9000 0]] (objs [(9000,.box [.t (.sc (.int .i64 o1.name.kind)),.t (.sc (.str o1.name.name)),.t (.sc (.int .i64 o1.name.n)),.t (.sl (o1.name.scopes.map rI)),.t (.sl (o1.name.kids.map Form.row)),.t (.sc (.int .i64 o1.depth)),.t (.sc (.int .i64 o1.one.kind)),.t (.sc (.str o1.one.name)),.t (.sc (.int .i64 o1.one.n)),.t (.sl (o1.one.scopes.map rI)),.t (.sl (o1.one.kids.map Form.row)),.t (.sl (o1.many.map Hit.row))])]) (.t (.sc (.bool r))) (objs [(9000,.box [.t (.sc (.int .i64 o1.name.kind)),.t (.sc (.str o1.name.name)),.t (.sc (.int .i64 o1.name.n)),.t (.sl (o1.name.scopes.map rI)),.t (.sl (o1.name.kids.map Form.row)),.t (.sc (.int .i64 o1.depth)),.t (.sc (.int .i64 o1.one.kind)),.t (.sc (.str o1.one.name)),.t (.sc (.int .i64 o1.one.n)),.t (.sl (o1.one.scopes.map rI)),.t (.sl (o1.one.kids.map Form.row)),.t (.sl (o1.many.map Hit.row))])])
def zax (fuel:Nat):Prop:=∀ (x1:(List Hit)) (o1:Hit) (r:Int),za1 fuel x1 o1=some r→AC Tryz.prog 124 [.t (.sl (x1.map Hit.row)),.fn 82 [.rf 9000 0]] (objs [(9000,.box [.t (.sc (.int .i64 o1.name.kind)),.t (.sc (.str o1.name.name)),.t (.sc (.int .i64 o1.name.n)),.t (.sl (o1.name.scopes.map rI)),.t (.sl (o1.name.kids.map Form.row)),.t (.sc (.int .i64 o1.depth)),.t (.sc (.int .i64 o1.one.kind)),.t (.sc (.str o1.one.name)),.t (.sc (.int .i64 o1.one.n)),.t (.sl (o1.one.scopes.map rI)),.t (.sl (o1.one.kids.map Form.row)),.t (.sl (o1.many.map Hit.row))])]) (.t (.sc (.int .i64 r))) (objs [(9000,.box [.t (.sc (.int .i64 o1.name.kind)),.t (.sc (.str o1.name.name)),.t (.sc (.int .i64 o1.name.n)),.t (.sl (o1.name.scopes.map rI)),.t (.sl (o1.name.kids.map Form.row)),.t (.sc (.int .i64 o1.depth)),.t (.sc (.int .i64 o1.one.kind)),.t (.sc (.str o1.one.name)),.t (.sc (.int .i64 o1.one.n)),.t (.sl (o1.one.scopes.map rI)),.t (.sl (o1.one.kids.map Form.row)),.t (.sl (o1.many.map Hit.row))])])
theorem m_impl_hitOk_st (fu:Nat) (ih_m_impl_hitOk:∀ k,k≤fu→zdu k) (ih_m_impl_hitOk_1:∀ k,k≤fu→zdo k) (ih_m_slices_ContainsFunc_Hit_hitOk_1:∀ k,k≤fu→zan k) (ih_m_slices_IndexFunc_Hit_hitOk_1:∀ k,k≤fu→zax k):zdu (fu+1):=by
 intro x1 r F0
 rw [zd6] at F0
 refine AC_i [.t (.sc (.bool r))] Tryz.func32 rfl Tryz.ntmps32 ?_
 intro C hC
 refine zb (za ?_)
 refine za9 ?_
 refine s_as ?_
 refine zf (zd (zb (zb (za ?_))))
 refine s_fa zfi ?_
 refine zas yA27 yS27 ?_
 obtain ⟨v1,V1,F1⟩:=zc F0
 refine zx [] (m_impl_isName_ok fu _ _ V1) ?_
 refine zbq ?_
 refine s_mv ?_
 refine zo _ 7 F1 ?_ ?_<;>intro C2 F2
 iterate 4 refine r_no rfl ?_
 refine zz ?_
 refine s_mv ?_
 iterate 4 refine r_no rfl ?_
 refine zz ?_
 refine s_mv ?_
 iterate 4 refine r_no rfl ?_
 refine zz ?_
 refine zf (zd (zM rfl (zb (za ?_))))
 refine s_as ?_
 refine zf (zd (zh (zg (zn ?_))))
 cases F2
 exact zl [] [] Tryz.results32
 refine s_fa zfi ?_
 refine s_fa zdp ?_
 refine zu yA9 ?_
 refine zht ?_
 refine zB ?_
 refine s_mv ?_
 refine zo _ 13 F2 ?_ ?_<;>intro C3 F3
 iterate 4 refine r_no rfl ?_
 refine zz ?_
 refine s_mv ?_
 iterate 4 refine r_no rfl ?_
 refine zz ?_
 refine zf (zd (zM rfl (zb (za ?_))))
 refine s_as ?_
 refine zf (zd (zh (zg (zn ?_))))
 cases F3
 exact zl [] [] Tryz.results32
 refine s_fa zfi ?_
 refine s_fa zdp ?_
 refine zu yA9 ?_
 refine zht ?_
 refine zB ?_
 refine s_mv ?_
 refine zo _ 19 F3 ?_ ?_<;>intro C4 F4
 iterate 4 refine r_no rfl ?_
 refine zz ?_
 refine zf (zd (zM rfl (zb (za ?_))))
 refine s_as ?_
 refine zf (zd (zh (zg (zn ?_))))
 cases F4
 exact zl [] [] Tryz.results32
 refine s_fa zgc ?_
 refine zu yA3 ?_
 obtain ⟨v5,V5,F5⟩:=zc F4
 refine zx [] (zex fu _ _ _ _ V5) ?_
 refine zbq ?_
 refine zB ?_
 refine zf (zd ?_)
 refine zm F5 ?_ ?_<;>intro C6 F6
 refine zb (za ?_)
 refine s_as ?_
 refine zf (zd (zh (zg (zn ?_))))
 cases F6
 exact zl [] [] Tryz.results32
 refine zi (zd (zb (zb (za ?_))))
 refine s_fa zgc ?_
 refine zu yA3 ?_
 refine s_eq ?_
 refine zf (zd ?_)
 refine zm F6 ?_ ?_<;>intro C7 F7
 refine zb (za ?_)
 refine s_fa yF38_2 ?_
 refine zas yA27 yS27 ?_
 obtain ⟨v8,V8,F8⟩:=zc F7
 refine zx [] (zdv fu _ _ V8) ?_
 refine s_mv ?_
 refine zo _ 31 F8 ?_ ?_<;>intro C9 F9
 refine s_fa zfP ?_
 refine zu yA30 ?_
 refine zF yU30 ?_
 refine s_eq ?_
 refine zz ?_
 refine s_as ?_
 refine zf (zd (zh (zg (zn ?_))))
 cases F9
 exact zl [] [] Tryz.results32
 iterate 4 refine r_no rfl ?_
 refine zB ?_
 refine s_as ?_
 refine zf (zd (zh (zg (zn ?_))))
 cases F9
 exact zl [] [] Tryz.results32
 refine zi (zd (zb (za ?_)))
 refine s_fa yF38_2 ?_
 refine zas yA27 yS27 ?_
 refine zeJ yZ27 yL27 ?_
 obtain ⟨v10,V10,F8⟩:=zc F7
 refine zx [] (zbL fu _ _ _ V10) ?_
 refine s_mv ?_
 refine zo _ 41 F8 ?_ ?_<;>intro C11 F9
 refine s_fa zfP ?_
 refine zu yA30 ?_
 refine zF yU30 ?_
 refine s_le ?_
 refine zz ?_
 refine s_mv ?_
 refine zo _ 47 F9 ?_ ?_<;>intro C12 F10
 refine s_fa zfP ?_
 refine zu yA30 ?_
 refine s_fn ?_
 obtain ⟨v13,V13,F11⟩:=zc F10
 refine zU [(9000,1)] [] _ _ (ih_m_slices_ContainsFunc_Hit_hitOk_1 fu (by omega) _ _ _ V13) ?_
 refine zbq ?_
 refine zz ?_
 refine s_as ?_
 refine zf (zd (zh (zn ?_)))
 cases F11
 exact zl [] [] Tryz.results32
 iterate 5 refine r_no rfl ?_
 refine zB ?_
 refine s_as ?_
 refine zf (zd (zh (zn ?_)))
 cases F10
 exact zl [] [] Tryz.results32
 iterate 4 refine r_no rfl ?_
 refine zB ?_
 refine s_mv ?_
 iterate 5 refine r_no rfl ?_
 refine zB ?_
 refine s_as ?_
 refine zf (zd (zh (zn ?_)))
 cases F9
 exact zl [] [] Tryz.results32
end Go.Abs
