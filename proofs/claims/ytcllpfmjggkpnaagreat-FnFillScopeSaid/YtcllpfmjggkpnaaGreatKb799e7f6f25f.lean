/- A part of the proof: what the functions that the law calls answer, as pure values. -/
import Derived.Test.YtcllpfmjggkpnaaGreatKcd1b73107f87
import Derived.Test.YtcllpfmjggkpnaaGreatK91fcc0fd7672
import Derived.Test.YtcllpfmjggkpnaaGreatKbc97550ab167
import Derived.Test.YtcllpfmjggkpnaaGreatK1df75f79e59f
import Derived.Test.YtcllpfmjggkpnaaGreatK9007fc86218d
import Derived.Test.YtcllpfmjggkpnaaGreatKfa16095425eb
set_option linter.unusedSimpArgs false
set_option linter.unusedVariables false
set_option maxRecDepth 100000
set_option maxHeartbeats 4000000
namespace Go.Abs
open Go.Proofs
def zg9 (fuel:Nat):Prop:=∀ (x1:(List Int)) (r:(Form × (List Hit))),zcd fuel x1=some r→AC Tryz.prog 12 [.t (.sl (x1.map rB))] noOb (.tp [.ag [.t (.sc (.int .i64 r.1.kind)),.t (.sc (.str r.1.name)),.t (.sc (.int .i64 r.1.n)),.t (.sl (r.1.scopes.map rI)),.t (.sl (r.1.kids.map Form.row))],.t (.sl (r.2.map Hit.row))]) noOb
theorem zg8 (fuel:Nat):zg9 fuel:=by
 intro x1 r F0
 unfold zcd at F0
 refine AC_i [.ag [.t (.sc (.int .i64 r.1.kind)),.t (.sc (.str r.1.name)),.t (.sc (.int .i64 r.1.n)),.t (.sl (r.1.scopes.map rI)),.t (.sl (r.1.kids.map Form.row))],.t (.sl (r.2.map Hit.row))] Tryz.func12 rfl Tryz.ntmps12 ?_
 intro C hC
 refine zb (za ?_)
 refine zR yZ27 ?_
 refine s_as ?_
 refine zf (zd (zb (za ?_)))
 refine s_mv ?_
 obtain ⟨v1,V1,F1⟩:=zc F0
 refine zx [] (m_spec_l5Hits_ok fuel _ _ V1) ?_
 refine zbJ ?_
 refine zbJ ?_
 refine zac yS27 ?_
 refine s_as ?_
 refine zf (zd (zh (zn ?_)))
 cases F1
 exact zI [] [] (by rw [Tryz.results12];exact (zZ (by conv=>lhs;whnf) (by conv=>lhs;whnf) yA27 yS27 rfl (zah (by conv=>lhs;whnf) zP)))
def m_impl_hitVars_AC (fuel:Nat):Prop:=∀ (x1:(List Hit)) (r:((List Form) × (List Int))),zfp fuel x1=some r→AC Tryz.prog 88 [.t (.sl (x1.map Hit.row))] noOb (.tp [.t (.sl (r.1.map Form.row)),.t (.sl (r.2.map rI))]) noOb
theorem m_impl_hitVars_ok (fuel:Nat):m_impl_hitVars_AC fuel:=by
 intro x1 r F0
 unfold zfp at F0
 refine AC_i [.t (.sl (r.1.map Form.row)),.t (.sl (r.2.map rI))] Tryz.func88 rfl Tryz.ntmps88 ?_
 intro C hC
 refine zb (za ?_)
 refine s_as ?_
 refine s_as ?_
 refine zf (zd (zb (za ?_)))
 refine s_bs Form.row ([]:List Form) yP25 yR27 ?_
 refine s_bs rI ([]:List Int) yP24 yR3 ?_
 refine s_as ?_
 refine s_as ?_
 refine zf (zd (zb (zb (za ?_))))
 refine s_mv ?_
 refine zF yU30 ?_
 refine s_mv ?_
 refine zf (zd (zk ?_))
 refine zdl 4 8 5020 (by conv=>lhs;whnf) (by conv=>lhs;whnf) rfl ?_
 refine zdl 5 9 5021 (by conv=>lhs;whnf) (by conv=>lhs;whnf) rfl ?_
 refine zap [4,5,7,12,13,14,15,16,17,18,19,20,21,22,23,24,25,26] [5020,5021] [7,19,20,24,25] [5020,5021] (fun a:Nat × (List Form) × (List Int) × Int=>a.1) (fun a:Nat × (List Form) × (List Int) × Int=>[(4,.ar 5020),(5,.ar 5021),(12,.t (.sc (.int .i64 a.2.2.2)))]) (fun a:Nat × (List Form) × (List Int) × Int=>[(5020,.arr (a.2.1.map Form.row) 27 true),(5021,.arr (a.2.2.1.map rI) 3 true)]) (fun a:Nat × (List Form) × (List Int) × Int=>a.1≤fuel∧zb5 a.1 x1 a.2.1 a.2.2.1 a.2.2.2=some r∧0≤a.2.2.2) (fuel,([]:List Form),([]:List Int),0) ⟨Nat.le_refl _,F0,by simp⟩ (by rfl) (by rfl) (fun _=>rfl) (zG (by conv=>lhs;whnf) (by rfl) (zG (by conv=>lhs;whnf) (by rfl) (zG (by conv=>lhs;whnf) (by rfl) za7))) (zT (by conv=>lhs;whnf) (by rfl) (zT (by conv=>lhs;whnf) (by rfl) zaW)) (zb7 hC rfl) (by repeat (first | exact zai rfl | refine zat rfl ?_ | refine zX rfl ?_)) (by repeat (first | exact zaL | exact zam rfl | refine zau rfl ?_ | refine zY rfl ?_)) ?_
 clear F0
 rintro ⟨fu,g1,g2,g3⟩ ⟨hl4,F1,hn_g3⟩
 dsimp only at hl4 F1 hn_g3 ⊢
 obtain _ | fu:=fu
 · rw [zb5] at F1;cases F1
 rw [zb5] at F1
 refine zb (za ?_)
 refine s_lt ?_
 refine zf (zd (zb ?_))
 refine zm F1 ?_ ?_<;>intro C5 F2
 refine zW 0 (fun B6=>?_)
 refine zi (zd (zb (zk (zb (za ?_)))))
 obtain ⟨v7,V7,F3⟩:=zc F2
 refine zN Hit.row V7 (Hit.row_eq _) yE30 ?_
 refine zas yA38 yS38 ?_
 refine zR yZ38 ?_
 refine zac yS38 ?_
 refine zf (zd ?_)
 refine z7 yMix (by kernel_rfl) ?_
 refine zhr ?_
 refine s_fa zfi ?_
 refine zas yA27 yS27 ?_
 refine s_bs Form.row [v7.name] yP25 yR27 ?_
 obtain ⟨hk8,F4⟩:=zab F3
 refine zd4 Form.row (fun y=>Form.row_len y) hk8 yP25 ?_
 refine zhr ?_
 refine s_fa zgc ?_
 refine zu yA3 ?_
 refine s_bs rI [v7.depth] yP24 yR3 ?_
 obtain ⟨hk9,F5⟩:=zab F4
 refine zd4 rI (fun _=>rfl) hk9 yP24 ?_
 refine s_as ?_
 refine s_as ?_
 refine zar (by kernel_rfl) ?_
 refine zaa (zd (za ?_))
 refine zO (zaJ C5 B6 hn_g3) ?_
 refine s_mv ?_
 refine zf ?_
 exact s_rn (fu,(g1++[v7.name]),(g2++[v7.depth]),(g3+1)) ⟨by first | omega | (dsimp only;omega),F5,by first | omega | (dsimp only;omega)⟩ [(5020,20),(5021,25)]
 refine zA (zq (zp (zr (zd (zb (za ?_))))))
 refine s_mv ?_
 refine s_mv ?_
 refine s_as ?_
 refine s_as ?_
 refine zf (zd (zh (zn ?_)))
 cases F2
 exact zl [] [5020,5021] Tryz.results88
def m_impl_hitAt_1_AC (fuel:Nat):Prop:=∀ (x1:Hit) (o1:Form) (r:Bool),zdR fuel x1 o1=some r→AC Tryz.prog 129 [.ag [.t (.sc (.int .i64 x1.name.kind)),.t (.sc (.str x1.name.name)),.t (.sc (.int .i64 x1.name.n)),.t (.sl (x1.name.scopes.map rI)),.t (.sl (x1.name.kids.map Form.row)),.t (.sc (.int .i64 x1.depth)),.t (.sc (.int .i64 x1.one.kind)),.t (.sc (.str x1.one.name)),.t (.sc (.int .i64 x1.one.n)),.t (.sl (x1.one.scopes.map rI)),.t (.sl (x1.one.kids.map Form.row)),.t (.sl (x1.many.map Hit.row))],.rf 9000 0] (objs [(9000,.box [.t (.sc (.int .i64 o1.kind)),.t (.sc (.str o1.name)),.t (.sc (.int .i64 o1.n)),.t (.sl (o1.scopes.map rI)),.t (.sl (o1.kids.map Form.row))])]) (.t (.sc (.bool r))) (objs [(9000,.box [.t (.sc (.int .i64 o1.kind)),.t (.sc (.str o1.name)),.t (.sc (.int .i64 o1.n)),.t (.sl (o1.scopes.map rI)),.t (.sl (o1.kids.map Form.row))])])
theorem m_impl_hitAt_1_ok (fuel:Nat):m_impl_hitAt_1_AC fuel:=by
 intro x1 o1 r F0
 unfold zdR at F0
 refine AC_i [.t (.sc (.bool r))] Tryz.func129 rfl Tryz.ntmps129 ?_
 intro C hC
 refine zb (za ?_)
 refine za9 ?_
 refine s_as ?_
 refine zf (zd (zb (za ?_)))
 refine s_fa zfi ?_
 refine zas yA27 yS27 ?_
 refine zJ yA27 yS27 ?_
 obtain ⟨v1,V1,F1⟩:=zc F0
 refine zx [] (zbL fuel _ _ _ V1) ?_
 refine s_as ?_
 refine zf (zd (zh (zn ?_)))
 cases F1
 exact zl _ [] Tryz.results129
def zf6 (fuel:Nat):Prop:=∀ (x1:(List Hit)) (o1:Form) (r:Int),za2 fuel x1 o1=some r→AC Tryz.prog 124 [.t (.sl (x1.map Hit.row)),.fn 129 [.rf 9000 0]] (objs [(9000,.box [.t (.sc (.int .i64 o1.kind)),.t (.sc (.str o1.name)),.t (.sc (.int .i64 o1.n)),.t (.sl (o1.scopes.map rI)),.t (.sl (o1.kids.map Form.row))])]) (.t (.sc (.int .i64 r))) (objs [(9000,.box [.t (.sc (.int .i64 o1.kind)),.t (.sc (.str o1.name)),.t (.sc (.int .i64 o1.n)),.t (.sl (o1.scopes.map rI)),.t (.sl (o1.kids.map Form.row))])])
theorem zf5 (fuel:Nat):zf6 fuel:=by
 intro x1 o1 r F0
 unfold za2 at F0
 refine AC_i [.t (.sc (.int .i64 r))] Tryz.func124 rfl Tryz.ntmps124 ?_
 intro C hC
 refine zb (za ?_)
 refine s_as ?_
 refine zf (zd (zb (zb (za ?_))))
 refine s_mv ?_
 refine zF yU30 ?_
 refine s_mv ?_
 refine zf (zd (zk ?_))
 refine zbk (β:=Int) [4,5,8,9,10,11,12,13,14,15,16,17,18] [] [] (fun a=>[(8,.t (.sc (.int .i64 a.2)))]) (fun a=>[]) (fun a=>a.1≤fuel∧zQ a.1 x1 o1 a.2=some r∧0≤a.2) (fuel,0) ⟨Nat.le_refl _,F0,by simp⟩ ?_
 clear F0
 rintro ⟨fu,g1⟩ ⟨hl2,F1,hn_g1⟩
 dsimp only at hl2 F1 hn_g1 ⊢
 obtain _ | fu:=fu
 · rw [zQ] at F1;cases F1
 rw [zQ] at F1
 refine zb (za ?_)
 refine s_lt ?_
 refine zf (zd (zb ?_))
 refine zm F1 ?_ ?_<;>intro C3 F2
 refine zW 0 (fun B4=>?_)
 refine zi (zd (zb (zk (zb (za ?_)))))
 refine s_mv ?_
 refine s_as ?_
 refine zf (zd (zb (za ?_)))
 iterate 3 refine s_mv ?_
 obtain ⟨v5,V5,F3⟩:=zc F2
 refine zN Hit.row V5 (Hit.row_eq _) yE30 ?_
 refine zas yA38 yS38 ?_
 obtain ⟨v6,V6,F4⟩:=zc F3
 refine zU [(9000,9000)] [] _ _ (m_impl_hitAt_1_ok fu _ _ _ V6) ?_
 refine zf (zd ?_)
 refine zm F4 ?_ ?_<;>intro C7 F5
 refine zb (za ?_)
 refine s_mv ?_
 refine s_as ?_
 refine zf (zd (zh (zj (zg (zy (zj (zg (zn ?_))))))))
 cases F5
 exact zl _ [] Tryz.results124
 refine zi (zaa (zd (za ?_)))
 refine zO (zaJ C3 B4 hn_g1) ?_
 refine s_mv ?_
 refine zf ?_
 exact s_rn (fu,(g1+1)) ⟨by first | omega | (dsimp only;omega),F5,by first | omega | (dsimp only;omega)⟩
 refine zA (zq (zp (zr (zd (zb (za ?_))))))
 refine s_as ?_
 refine zf (zd (zh (zn ?_)))
 cases F2
 exact zl _ [] Tryz.results124
def m_impl_hitAt_AC (fuel:Nat):Prop:=∀ (x1:(List Hit)) (x2:Form) (r:Int),zeZ fuel x1 x2=some r→AC Tryz.prog 91 [.t (.sl (x1.map Hit.row)),.ag [.t (.sc (.int .i64 x2.kind)),.t (.sc (.str x2.name)),.t (.sc (.int .i64 x2.n)),.t (.sl (x2.scopes.map rI)),.t (.sl (x2.kids.map Form.row))]] noOb (.t (.sc (.int .i64 r))) noOb
theorem m_impl_hitAt_ok (fuel:Nat):m_impl_hitAt_AC fuel:=by
 intro x1 x2 r F0
 unfold zeZ at F0
 refine AC_i [.t (.sc (.int .i64 r))] Tryz.func91 rfl Tryz.ntmps91 ?_
 intro C hC
 refine zb (za ?_)
 refine za9 ?_
 refine s_as ?_
 refine zf (zd (zb (za ?_)))
 refine s_mv ?_
 refine s_fn ?_
 obtain ⟨v1,V1,F1⟩:=zc F0
 refine zU [(9000,3)] [] _ _ (zf5 fuel _ _ _ V1) ?_
 refine s_as ?_
 refine zf (zd (zh (zn ?_)))
 cases F1
 exact zl [] [] Tryz.results91
def m_impl_HitsValid_AC (fuel:Nat):Prop:=∀ (x1:(List Hit)) (r:Bool),zeB fuel x1=some r→AC Tryz.prog 89 [.t (.sl (x1.map Hit.row))] noOb (.t (.sc (.bool r))) noOb
theorem m_impl_HitsValid_ok (fuel:Nat):m_impl_HitsValid_AC fuel:=by
 intro x1 r F0
 unfold zeB at F0
 refine AC_i [.t (.sc (.bool r))] Tryz.func89 rfl Tryz.ntmps89 ?_
 intro C hC
 refine zb (za ?_)
 refine s_as ?_
 refine zf (zd (zb (zb (za ?_))))
 refine s_mv ?_
 refine zF yU30 ?_
 refine s_mv ?_
 refine zf (zd (zk ?_))
 refine zbk (β:=Int) [2,3,4,7,8,9,10,11,12,13,14,15,16,17,18,19,20,21,22,23,24] [] [4] (fun a=>[(7,.t (.sc (.int .i64 a.2)))]) (fun a=>[]) (fun a=>a.1≤fuel∧zbA a.1 x1 a.2=some r∧0≤a.2) (fuel,0) ⟨Nat.le_refl _,F0,by simp⟩ ?_
 clear F0
 rintro ⟨fu,g1⟩ ⟨hl2,F1,hn_g1⟩
 dsimp only at hl2 F1 hn_g1 ⊢
 obtain _ | fu:=fu
 · rw [zbA] at F1;cases F1
 rw [zbA] at F1
 refine zb (za ?_)
 refine s_lt ?_
 refine zf (zd (zb ?_))
 refine zm F1 ?_ ?_<;>intro C3 F2
 refine zW 0 (fun B4=>?_)
 refine zi (zd (zb (zk (zb (za ?_)))))
 refine s_mv ?_
 obtain ⟨v5,V5,F3⟩:=zc F2
 refine zN Hit.row V5 (Hit.row_eq _) yE30 ?_
 refine zas yA38 yS38 ?_
 refine zR yZ38 ?_
 refine s_as ?_
 refine zac yS38 ?_
 refine zf (zd (zb ?_))
 refine z7 yMix (by kernel_rfl) ?_
 refine zJ yA38 yS38 ?_
 obtain ⟨v6,V6,F4⟩:=zc F3
 refine zx [] (m_impl_hitOk_ok fu _ _ V6) ?_
 refine zbq ?_
 refine s_mv ?_
 refine zo _ 15 F4 ?_ ?_<;>intro C7 F5
 iterate 7 refine r_no rfl ?_
 refine zz ?_
 refine zar (by kernel_rfl) ?_
 refine zd (zM rfl (zb (za ?_)))
 refine s_as ?_
 refine zf (zd (zh (zj (zg (zy (zj (zg (zn ?_))))))))
 cases F5
 exact zl [] [] Tryz.results89
 refine s_mv ?_
 refine s_mv ?_
 obtain ⟨v8,V8,F6⟩:=zc F5
 refine s_sl01 Hit.row (fun y=>Hit.row_len y) V8 yU30 yE30 ?_
 refine s_fa zfi ?_
 refine zas yA27 yS27 ?_
 obtain ⟨v9,V9,F7⟩:=zc F6
 refine zx [] (m_impl_hitAt_ok fu _ _ _ V9) ?_
 refine s_ge ?_
 refine zB ?_
 refine zar (by kernel_rfl) ?_
 refine zd ?_
 refine zm F7 ?_ ?_<;>intro C10 F8
 refine zb (za ?_)
 refine s_as ?_
 refine zf (zd (zh (zj (zg (zy (zj (zg (zn ?_))))))))
 cases F8
 exact zl [] [] Tryz.results89
 refine zi (zaa (zd (za ?_)))
 refine zO (zaJ C3 B4 hn_g1) ?_
 refine s_mv ?_
 refine zf ?_
 exact s_rn (fu,(g1+1)) ⟨by first | omega | (dsimp only;omega),F8,by first | omega | (dsimp only;omega)⟩
 refine zA (zq (zp (zr (zd (zb (za ?_))))))
 refine s_mv ?_
 refine zF yU30 ?_
 refine s_le ?_
 refine s_as ?_
 refine zf (zd (zh (zn ?_)))
 cases F2
 exact zl [] [] Tryz.results89
def m_impl_depthIn_1_AC (fuel:Nat):Prop:=∀ (x1:Form) (o1:Form) (r:Bool),zez fuel x1 o1=some r→AC Tryz.prog 156 [.ag [.t (.sc (.int .i64 x1.kind)),.t (.sc (.str x1.name)),.t (.sc (.int .i64 x1.n)),.t (.sl (x1.scopes.map rI)),.t (.sl (x1.kids.map Form.row))],.rf 9000 0] (objs [(9000,.box [.t (.sc (.int .i64 o1.kind)),.t (.sc (.str o1.name)),.t (.sc (.int .i64 o1.n)),.t (.sl (o1.scopes.map rI)),.t (.sl (o1.kids.map Form.row))])]) (.t (.sc (.bool r))) (objs [(9000,.box [.t (.sc (.int .i64 o1.kind)),.t (.sc (.str o1.name)),.t (.sc (.int .i64 o1.n)),.t (.sl (o1.scopes.map rI)),.t (.sl (o1.kids.map Form.row))])])
theorem m_impl_depthIn_1_ok (fuel:Nat):m_impl_depthIn_1_AC fuel:=by
 intro x1 o1 r F0
 unfold zez at F0
 refine AC_i [.t (.sc (.bool r))] Tryz.func156 rfl Tryz.ntmps156 ?_
 intro C hC
 refine zb (za ?_)
 refine za9 ?_
 refine s_as ?_
 refine zf (zd (zb (za ?_)))
 refine zJ yA27 yS27 ?_
 refine zJ yA27 yS27 ?_
 obtain ⟨v1,V1,F1⟩:=zc F0
 refine zx [] (zbL fuel _ _ _ V1) ?_
 refine s_as ?_
 refine zf (zd (zh (zn ?_)))
 cases F1
 exact zl _ [] Tryz.results156
def zfn (fuel:Nat):Prop:=∀ (x1:(List Form)) (o1:Form) (r:Int),zbn fuel x1 o1=some r→AC Tryz.prog 113 [.t (.sl (x1.map Form.row)),.fn 156 [.rf 9000 0]] (objs [(9000,.box [.t (.sc (.int .i64 o1.kind)),.t (.sc (.str o1.name)),.t (.sc (.int .i64 o1.n)),.t (.sl (o1.scopes.map rI)),.t (.sl (o1.kids.map Form.row))])]) (.t (.sc (.int .i64 r))) (objs [(9000,.box [.t (.sc (.int .i64 o1.kind)),.t (.sc (.str o1.name)),.t (.sc (.int .i64 o1.n)),.t (.sl (o1.scopes.map rI)),.t (.sl (o1.kids.map Form.row))])])
theorem zfm (fuel:Nat):zfn fuel:=by
 intro x1 o1 r F0
 unfold zbn at F0
 refine AC_i [.t (.sc (.int .i64 r))] Tryz.func113 rfl Tryz.ntmps113 ?_
 intro C hC
 refine zb (za ?_)
 refine s_as ?_
 refine zf (zd (zb (zb (za ?_))))
 refine s_mv ?_
 refine zF yU25 ?_
 refine s_mv ?_
 refine zf (zd (zk ?_))
 refine zbk (β:=Int) [4,5,8,9,10,11,12,13,14,15,16,17,18] [] [] (fun a=>[(8,.t (.sc (.int .i64 a.2)))]) (fun a=>[]) (fun a=>a.1≤fuel∧zad a.1 x1 o1 a.2=some r∧0≤a.2) (fuel,0) ⟨Nat.le_refl _,F0,by simp⟩ ?_
 clear F0
 rintro ⟨fu,g1⟩ ⟨hl2,F1,hn_g1⟩
 dsimp only at hl2 F1 hn_g1 ⊢
 obtain _ | fu:=fu
 · rw [zad] at F1;cases F1
 rw [zad] at F1
 refine zb (za ?_)
 refine s_lt ?_
 refine zf (zd (zb ?_))
 refine zm F1 ?_ ?_<;>intro C3 F2
 refine zW 0 (fun B4=>?_)
 refine zi (zd (zb (zk (zb (za ?_)))))
 refine s_mv ?_
 refine s_as ?_
 refine zf (zd (zb (za ?_)))
 iterate 3 refine s_mv ?_
 obtain ⟨v5,V5,F3⟩:=zc F2
 refine zN Form.row V5 (Form.row_eq _) yE25 ?_
 refine zas yA27 yS27 ?_
 obtain ⟨v6,V6,F4⟩:=zc F3
 refine zU [(9000,9000)] [] _ _ (m_impl_depthIn_1_ok fu _ _ _ V6) ?_
 refine zf (zd ?_)
 refine zm F4 ?_ ?_<;>intro C7 F5
 refine zb (za ?_)
 refine s_mv ?_
 refine s_as ?_
 refine zf (zd (zh (zj (zg (zy (zj (zg (zn ?_))))))))
 cases F5
 exact zl _ [] Tryz.results113
 refine zi (zaa (zd (za ?_)))
 refine zO (zaJ C3 B4 hn_g1) ?_
 refine s_mv ?_
 refine zf ?_
 exact s_rn (fu,(g1+1)) ⟨by first | omega | (dsimp only;omega),F5,by first | omega | (dsimp only;omega)⟩
 refine zA (zq (zp (zr (zd (zb (za ?_))))))
 refine s_as ?_
 refine zf (zd (zh (zn ?_)))
 cases F2
 exact zl _ [] Tryz.results113
def m_impl_depthIn_AC (fuel:Nat):Prop:=∀ (x1:(List Form)) (x2:(List Int)) (x3:Form) (r:Int),zeI fuel x1 x2 x3=some r→AC Tryz.prog 145 [.t (.sl (x1.map Form.row)),.t (.sl (x2.map rI)),.ag [.t (.sc (.int .i64 x3.kind)),.t (.sc (.str x3.name)),.t (.sc (.int .i64 x3.n)),.t (.sl (x3.scopes.map rI)),.t (.sl (x3.kids.map Form.row))]] noOb (.t (.sc (.int .i64 r))) noOb
theorem zhC (fuel:Nat):m_impl_depthIn_AC fuel:=by
 intro x1 x2 x3 r F0
 unfold zeI at F0
 refine AC_i [.t (.sc (.int .i64 r))] Tryz.func145 rfl Tryz.ntmps145 ?_
 intro C hC
 refine zb (za ?_)
 refine za9 ?_
 refine s_as ?_
 refine zf (zd (zb (zb (za ?_))))
 refine s_fa zcT ?_
 refine zu yA3 ?_
 refine s_ne ?_
 refine zf (zd ?_)
 refine zm F0 ?_ ?_<;>intro C1 F1
 refine zb (za ?_)
 refine s_as ?_
 refine zf (zd (zh (zg (zn ?_))))
 cases F1
 exact zl [] [] Tryz.results145
 refine zi (zd (zb (za ?_)))
 refine s_mv ?_
 refine s_fn ?_
 obtain ⟨v2,V2,F2⟩:=zc F1
 refine zU [(9000,5)] [] _ _ (zfm fuel _ _ _ V2) ?_
 refine s_as ?_
 refine zf (zd (zb (zb (za ?_))))
 refine s_mv ?_
 refine s_lt ?_
 refine zf (zd ?_)
 refine zm F2 ?_ ?_<;>intro C3 F3
 refine zb (za ?_)
 refine s_as ?_
 refine zf (zd (zh (zg (zn ?_))))
 cases F3
 exact zl [] [] Tryz.results145
 refine zi (zd (zb (za ?_)))
 refine s_mv ?_
 refine s_mv ?_
 obtain ⟨v4,V4,F4⟩:=zc F3
 refine zN rI V4 rfl yE24 ?_
 refine zu yA3 ?_
 refine s_as ?_
 refine zf (zd (zh (zn ?_)))
 cases F4
 exact zl [] [] Tryz.results145
def m_impl_rowsOk_1_AC (fuel:Nat):Prop:=∀ (x1:Form) (o1:Bool) (o2:(List Form)) (o3:(List Int)) (o4:Int) (r:Bool),zf7 fuel x1 o1 o2 o3 o4=some r→AC Tryz.prog 146 [.ag [.t (.sc (.int .i64 x1.kind)),.t (.sc (.str x1.name)),.t (.sc (.int .i64 x1.n)),.t (.sl (x1.scopes.map rI)),.t (.sl (x1.kids.map Form.row))],.rf 9000 0,.rf 9001 0,.rf 9002 0,.rf 9003 0] (objs [(9000,.box [.t (.sc (.bool o1))]),(9001,.box [.t (.sl (o2.map Form.row))]),(9002,.box [.t (.sl (o3.map rI))]),(9003,.box [.t (.sc (.int .i64 o4))])]) (.tp []) (objs [(9000,.box [.t (.sc (.bool r))]),(9001,.box [.t (.sl (o2.map Form.row))]),(9002,.box [.t (.sl (o3.map rI))]),(9003,.box [.t (.sc (.int .i64 o4))])])
theorem m_impl_rowsOk_1_ok (fuel:Nat):m_impl_rowsOk_1_AC fuel:=by
 intro x1 o1 o2 o3 o4 r F0
 unfold zf7 at F0
 refine AC_i [] Tryz.func146 rfl Tryz.ntmps146 ?_
 intro C hC
 refine zb (za ?_)
 refine za9 ?_
 refine zf (zd ?_)
 refine z7 yMix (by kernel_rfl) ?_
 refine zu yA4 ?_
 refine s_mv ?_
 refine zo _ 7 F0 ?_ ?_<;>intro C1 F1
 iterate 6 refine r_no rfl ?_
 refine zz ?_
 refine zac yS4 ?_
 refine zar (by kernel_rfl) ?_
 refine zhD ?_
 cases F1
 exact zl _ [] Tryz.results146
 refine zu yA25 ?_
 refine zu yA24 ?_
 refine zJ yA27 yS27 ?_
 obtain ⟨v2,V2,F2⟩:=zc F1
 refine zx [] (zhC fuel _ _ _ _ V2) ?_
 refine zu yA3 ?_
 refine s_gt ?_
 refine zB ?_
 refine zac yS4 ?_
 refine zar (by kernel_rfl) ?_
 refine zhD ?_
 cases F2
 exact zl _ [] Tryz.results146
def zce (fuel:Nat):Prop:=∀ (x1:Form) (o1:Bool) (o2:(List Form)) (o3:(List Int)) (o4:Int) (r:Bool),za0 fuel x1 o1 o2 o3 o4=some r→AC Tryz.prog 94 [.ag [.t (.sc (.int .i64 x1.kind)),.t (.sc (.str x1.name)),.t (.sc (.int .i64 x1.n)),.t (.sl (x1.scopes.map rI)),.t (.sl (x1.kids.map Form.row))],.fn 146 [.rf 9000 0,.rf 9001 0,.rf 9002 0,.rf 9003 0]] (objs [(9000,.box [.t (.sc (.bool o1))]),(9001,.box [.t (.sl (o2.map Form.row))]),(9002,.box [.t (.sl (o3.map rI))]),(9003,.box [.t (.sc (.int .i64 o4))])]) (.tp []) (objs [(9000,.box [.t (.sc (.bool r))]),(9001,.box [.t (.sl (o2.map Form.row))]),(9002,.box [.t (.sl (o3.map rI))]),(9003,.box [.t (.sc (.int .i64 o4))])])
theorem zg2 (fu:Nat) (ih_m_impl_eachForm_rowsOk_1:∀ k,k≤fu→zce k):zce (fu+1):=by
 intro x1 o1 o2 o3 o4 r F0
 rw [za0] at F0
 refine AC_i [] Tryz.func94 rfl Tryz.ntmps94 ?_
 intro C hC
 refine zb (za ?_)
 refine za9 ?_
 refine zf (zd (zb (za ?_)))
 refine s_mv ?_
 refine zJ yA27 yS27 ?_
 obtain ⟨v1,V1,F1⟩:=zc F0
 refine zU [(9000,9000),(9001,9001),(9002,9002),(9003,9003)] [] _ _ (m_impl_rowsOk_1_ok fu _ _ _ _ _ _ V1) ?_
 refine zf (zd (zb (za ?_)))
 refine s_fa zH ?_
 refine zu yA25 ?_
 refine zF yU25 ?_
 refine s_mv ?_
 refine zf (zd (zk ?_))
 refine zbk (β:=Int × Bool) [5,12,13,14,15,16,17,18,19] [9000] [5] (fun a=>[(12,.t (.sc (.int .i64 a.2.1)))]) (fun a=>[(9000,.box [.t (.sc (.bool a.2.2))])]) (fun a=>a.1≤fu∧zaw a.1 x1 o2 o3 o4 a.2.1 a.2.2=some r∧0≤a.2.1) (fu,0,v1) ⟨Nat.le_refl _,F1,by simp⟩ ?_
 clear F1
 rintro ⟨fu,g2,g3⟩ ⟨hl4,F2,hn_g2⟩
 dsimp only at hl4 F2 hn_g2 ⊢
 obtain _ | fu:=fu
 · rw [zaw] at F2;cases F2
 rw [zaw] at F2
 refine zb (za ?_)
 refine s_lt ?_
 refine zf (zd (zb ?_))
 refine zm F2 ?_ ?_<;>intro C5 F3
 refine zW 10 (fun B6=>?_)
 refine zi (zd (zb (zk (zb (za ?_)))))
 obtain ⟨v7,V7,F4⟩:=zc F3
 refine zN Form.row V7 (Form.row_eq _) yE25 ?_
 refine zas yA27 yS27 ?_
 refine zR yZ27 ?_
 refine zac yS27 ?_
 refine zf (zd (za ?_))
 refine zJ yA27 yS27 ?_
 refine s_mv ?_
 obtain ⟨v8,V8,F5⟩:=zc F4
 refine zU [(9000,9000),(9001,9001),(9002,9002),(9003,9003)] [] _ _ (ih_m_impl_eachForm_rowsOk_1 fu (by omega) _ _ _ _ _ _ V8) ?_
 refine zf (zaa (zd (za ?_)))
 refine zO (zaJ C5 B6 hn_g2) ?_
 refine s_mv ?_
 refine zf ?_
 exact s_rn (fu,(g2+1),v8) ⟨by first | omega | (dsimp only;omega),F5,by first | omega | (dsimp only;omega)⟩
 refine zA (zq (zp (zr (zhD ?_))))
 cases F3
 exact zl _ [] Tryz.results94
theorem zgU (fuel:Nat):zce fuel:=by
 induction fuel using Nat.strongRecOn with
 | _ N ih =>
   cases N with
   | zero=>exact (by intro x1 o1 o2 o3 o4 r h;rw [za0] at h;cases h)
   | succ fu=>exact zg2 fu (fun k hk=>(ih k (by omega)))
theorem zg3 (fuel:Nat):zce fuel:=(zgU fuel)
def zfE (fuel:Nat):Prop:=∀ (x1:Form) (x2:(List Form)) (x3:(List Int)) (x4:Int) (r:Bool),zcI fuel x1 x2 x3 x4=some r→AC Tryz.prog 128 [.ag [.t (.sc (.int .i64 x1.kind)),.t (.sc (.str x1.name)),.t (.sc (.int .i64 x1.n)),.t (.sl (x1.scopes.map rI)),.t (.sl (x1.kids.map Form.row))],.t (.sl (x2.map Form.row)),.t (.sl (x3.map rI)),.t (.sc (.int .i64 x4))] noOb (.t (.sc (.bool r))) noOb
theorem m_impl_rowsOk_st (fu:Nat) (ih_m_impl_rowsOk:∀ k,k≤fu→zfE k):zfE (fu+1):=by
 intro x1 x2 x3 x4 r F0
 rw [zcI] at F0
 refine AC_i [.t (.sc (.bool r))] Tryz.func128 rfl Tryz.ntmps128 ?_
 intro C hC
 refine zb (za ?_)
 iterate 4 refine za9 ?_
 refine s_as ?_
 refine zf (zd (zb (zb ?_)))
 refine z7 yMix (by kernel_rfl) ?_
 refine zu yA25 ?_
 refine zu yA24 ?_
 refine zJ yA27 yS27 ?_
 obtain ⟨v1,V1,F1⟩:=zc F0
 refine zx [] (zhC fu _ _ _ _ V1) ?_
 refine zu yA3 ?_
 refine s_gt ?_
 refine zar (by kernel_rfl) ?_
 refine zd ?_
 refine zm F1 ?_ ?_<;>intro C2 F2
 refine zb (za ?_)
 refine s_as ?_
 refine zf (zd (zh (zg (zn ?_))))
 cases F2
 exact zl [] [] Tryz.results128
 refine zi (zd (zb (zb (za ?_))))
 refine s_fa zH ?_
 refine zu yA25 ?_
 refine zF yU25 ?_
 refine s_mv ?_
 refine zf (zd (zk ?_))
 refine zbk (β:=Int) [8,9,10,11,12,22,23,24,25,26,27,28,29,30,31,32,33,34,35,36,37,38,39,40,41,42,43,44,45,46,47,48,49,50,51,52,53,54,55,56,57,58] [] [10,12] (fun a=>[(22,.t (.sc (.int .i64 a.2)))]) (fun a=>[]) (fun a=>a.1≤fu∧zaX a.1 x1 x2 x3 x4 a.2=some r∧0≤a.2) (fu,0) ⟨Nat.le_refl _,F2,by simp⟩ ?_
 clear F2
 rintro ⟨fu,g3⟩ ⟨hl4,F3,hn_g3⟩
 dsimp only at hl4 F3 hn_g3 ⊢
 obtain _ | fu:=fu
 · rw [zaX] at F3;cases F3
 rw [zaX] at F3
 refine zb (za ?_)
 refine s_lt ?_
 refine zf (zd (zb ?_))
 refine zm F3 ?_ ?_<;>intro C5 F4
 refine zW 20 (fun B6=>?_)
 refine zi (zd (zb (zk (zb (za ?_)))))
 refine s_mv ?_
 obtain ⟨v7,V7,F5⟩:=zc F4
 refine zN Form.row V7 (Form.row_eq _) yE25 ?_
 refine zas yA27 yS27 ?_
 refine zR yZ27 ?_
 refine s_as ?_
 refine zac yS27 ?_
 refine zf (zd (zb (zb (za ?_))))
 refine zJ yA27 yS27 ?_
 obtain ⟨v8,V8,F6⟩:=zc F5
 refine zx [] (zcR fu _ _ _ V8) ?_
 refine zf (zd ?_)
 refine zm F6 ?_ ?_<;>intro C9 F7
 refine zA (zq (zr (zd (za ?_))))
 refine zO (zaJ C5 B6 hn_g3) ?_
 refine s_mv ?_
 refine zf ?_
 exact s_rn (fu,(g3+1)) ⟨by first | omega | (dsimp only;omega),F7,by first | omega | (dsimp only;omega)⟩
 refine zi (zd (zb (za ?_)))
 refine zu yA3 ?_
 refine s_as ?_
 refine zf (zd (zb (zb (za ?_))))
 refine s_mv ?_
 refine zO (zaJ C5 B6 hn_g3) ?_
 refine s_fa zH ?_
 refine zu yA25 ?_
 refine zF yU25 ?_
 refine s_lt ?_
 refine s_mv ?_
 refine zo _ 36 F7 ?_ ?_<;>intro C10 F8
 refine s_fa zH ?_
 refine zu yA25 ?_
 refine s_mv ?_
 refine zO (zaJ C5 B6 hn_g3) ?_
 obtain ⟨v11,V11,F9⟩:=zc F8
 refine zN Form.row V11 (Form.row_eq _) yE25 ?_
 refine zas yA27 yS27 ?_
 obtain ⟨v12,V12,F10⟩:=zc F9
 refine zx [] (zcR fu _ _ _ V12) ?_
 refine zz ?_
 refine zf (zd ?_)
 refine zm F10 ?_ ?_<;>intro C13 F11
 refine zb (za ?_)
 refine s_mv ?_
 refine zO rfl ?_
 refine s_as ?_
 refine zf (zd (zb (za ?_)))
 refine zR yZ4 ?_
 refine zac yS4 ?_
 refine zf (zd (zb (za ?_)))
 refine zJ yA27 yS27 ?_
 refine s_fn ?_
 obtain ⟨v14,V14,F12⟩:=zc F11
 refine zU [(9000,12),(9001,5),(9002,6),(9003,7)] [] _ _ (zg3 fu _ _ _ _ _ _ V14) ?_
 refine zf (zd (zb (za ?_)))
 refine zu yA4 ?_
 refine zbq ?_
 refine zf (zd ?_)
 refine zm F12 ?_ ?_<;>intro C15 F13
 refine zb (za ?_)
 refine s_as ?_
 refine zf (zd (zh (zg (zj (zg (zy (zj (zg (zn ?_)))))))))
 cases F13
 exact zl [] [] Tryz.results128
 refine zi (zd (zb (za ?_)))
 refine zJ yA27 yS27 ?_
 refine zu yA25 ?_
 refine zu yA24 ?_
 refine s_mv ?_
 obtain ⟨v16,V16,F14⟩:=zc F13
 refine zx [] (ih_m_impl_rowsOk fu (by omega) _ _ _ _ _ V16) ?_
 refine zbq ?_
 refine zf (zd ?_)
 refine zm F14 ?_ ?_<;>intro C17 F15
 refine zb (za ?_)
 refine s_as ?_
 refine zf (zd (zh (zj (zg (zy (zj (zg (zn ?_))))))))
 cases F15
 exact zl [] [] Tryz.results128
 refine zi (zaa (zd (za ?_)))
 refine zO (zaJ C5 B6 hn_g3) ?_
 refine s_mv ?_
 refine zf ?_
 exact s_rn (fu,(g3+1)) ⟨by first | omega | (dsimp only;omega),F15,by first | omega | (dsimp only;omega)⟩
 refine zi (zd (zb (za ?_)))
 refine zJ yA27 yS27 ?_
 refine zu yA25 ?_
 refine zu yA24 ?_
 refine s_mv ?_
 obtain ⟨v18,V18,F12⟩:=zc F11
 refine zx [] (ih_m_impl_rowsOk fu (by omega) _ _ _ _ _ V18) ?_
 refine zbq ?_
 refine zf (zd ?_)
 refine zm F12 ?_ ?_<;>intro C19 F13
 refine zb (za ?_)
 refine s_as ?_
 refine zf (zd (zh (zj (zg (zy (zj (zg (zn ?_))))))))
 cases F13
 exact zl [] [] Tryz.results128
 refine zi (zaa (zd (za ?_)))
 refine zO (zaJ C5 B6 hn_g3) ?_
 refine s_mv ?_
 refine zf ?_
 exact s_rn (fu,(g3+1)) ⟨by first | omega | (dsimp only;omega),F13,by first | omega | (dsimp only;omega)⟩
 iterate 7 refine r_no rfl ?_
 refine zB ?_
 refine zf (zd (zaS rfl (zi (zd (zb (za ?_))))))
 refine zJ yA27 yS27 ?_
 refine zu yA25 ?_
 refine zu yA24 ?_
 refine s_mv ?_
 obtain ⟨v20,V20,F9⟩:=zc F8
 refine zx [] (ih_m_impl_rowsOk fu (by omega) _ _ _ _ _ V20) ?_
 refine zbq ?_
 refine zf (zd ?_)
 refine zm F9 ?_ ?_<;>intro C21 F10
 refine zb (za ?_)
 refine s_as ?_
 refine zf (zd (zh (zj (zg (zy (zj (zg (zn ?_))))))))
 cases F10
 exact zl [] [] Tryz.results128
 refine zi (zaa (zd (za ?_)))
 refine zO (zaJ C5 B6 hn_g3) ?_
 refine s_mv ?_
 refine zf ?_
 exact s_rn (fu,(g3+1)) ⟨by first | omega | (dsimp only;omega),F10,by first | omega | (dsimp only;omega)⟩
 refine zA (zq (zp (zr (zd (zb (za ?_))))))
 refine s_as ?_
 refine zf (zd (zh (zn ?_)))
 cases F4
 exact zl [] [] Tryz.results128
theorem m_impl_rowsOk_all (fuel:Nat):zfE fuel:=by
 induction fuel using Nat.strongRecOn with
 | _ N ih =>
   cases N with
   | zero=>exact (by intro x1 x2 x3 x4 r h;rw [zcI] at h;cases h)
   | succ fu=>exact m_impl_rowsOk_st fu (fun k hk=>(ih k (by omega)))
theorem m_impl_rowsOk_ok (fuel:Nat):zfE fuel:=(m_impl_rowsOk_all fuel)
def m_impl_templateOk_AC (fuel:Nat):Prop:=∀ (x1:Form) (x2:(List Form)) (x3:(List Int)) (r:Bool),zdY fuel x1 x2 x3=some r→AC Tryz.prog 90 [.ag [.t (.sc (.int .i64 x1.kind)),.t (.sc (.str x1.name)),.t (.sc (.int .i64 x1.n)),.t (.sl (x1.scopes.map rI)),.t (.sl (x1.kids.map Form.row))],.t (.sl (x2.map Form.row)),.t (.sl (x3.map rI))] noOb (.t (.sc (.bool r))) noOb
theorem m_impl_templateOk_ok (fuel:Nat):m_impl_templateOk_AC fuel:=by
 intro x1 x2 x3 r F0
 unfold zdY at F0
 refine AC_i [.t (.sc (.bool r))] Tryz.func90 rfl Tryz.ntmps90 ?_
 intro C hC
 refine zb (za ?_)
 refine za9 ?_
 refine s_as ?_
 refine zf (zd (zb (za ?_)))
 refine zJ yA27 yS27 ?_
 obtain ⟨v1,V1,F1⟩:=zc F0
 refine zx [] (zdv fuel _ _ V1) ?_
 refine s_mv ?_
 refine zo _ 9 F1 ?_ ?_<;>intro C2 F2
 refine zJ yA27 yS27 ?_
 obtain ⟨v3,V3,F3⟩:=zc F2
 refine zx [] (zcR fuel _ _ _ V3) ?_
 refine zbq ?_
 refine zz ?_
 refine s_mv ?_
 refine zo _ 14 F3 ?_ ?_<;>intro C4 F4
 refine zJ yA27 yS27 ?_
 obtain ⟨v5,V5,F5⟩:=zc F4
 refine zx [] (m_impl_dotsOk_ok fuel _ _ _ V5) ?_
 refine zz ?_
 refine s_mv ?_
 refine zo _ 18 F5 ?_ ?_<;>intro C6 F6
 refine zJ yA27 yS27 ?_
 refine s_mv ?_
 refine s_mv ?_
 obtain ⟨v7,V7,F7⟩:=zc F6
 refine zx [] (m_impl_rowsOk_ok fuel _ _ _ _ _ V7) ?_
 refine zz ?_
 refine s_as ?_
 refine zf (zd (zh (zn ?_)))
 cases F7
 exact zl [] [] Tryz.results90
 iterate 4 refine r_no rfl ?_
 refine zB ?_
 refine s_as ?_
 refine zf (zd (zh (zn ?_)))
 cases F6
 exact zl [] [] Tryz.results90
 refine r_no rfl (r_no rfl ?_)
 refine zB ?_
 refine s_mv ?_
 iterate 4 refine r_no rfl ?_
 refine zB ?_
 refine s_as ?_
 refine zf (zd (zh (zn ?_)))
 cases F4
 exact zl [] [] Tryz.results90
 iterate 3 refine r_no rfl ?_
 refine zB ?_
 refine s_mv ?_
 refine r_no rfl (r_no rfl ?_)
 refine zB ?_
 refine s_mv ?_
 iterate 4 refine r_no rfl ?_
 refine zB ?_
 refine s_as ?_
 refine zf (zd (zh (zn ?_)))
 cases F2
 exact zl [] [] Tryz.results90
def zhQ (fuel:Nat):Prop:=∀ (x1:Form) (x2:(List Hit)) (r:Bool),zc8 fuel x1 x2=some r→AC Tryz.prog 37 [.ag [.t (.sc (.int .i64 x1.kind)),.t (.sc (.str x1.name)),.t (.sc (.int .i64 x1.n)),.t (.sl (x1.scopes.map rI)),.t (.sl (x1.kids.map Form.row))],.t (.sl (x2.map Hit.row))] noOb (.t (.sc (.bool r))) noOb
theorem zhP (fuel:Nat):zhQ fuel:=by
 intro x1 x2 r F0
 unfold zc8 at F0
 refine AC_i [.t (.sc (.bool r))] Tryz.func37 rfl Tryz.ntmps37 ?_
 intro C hC
 refine zb (za ?_)
 refine za9 ?_
 refine s_as ?_
 refine zf (zd (zb (za ?_)))
 refine s_mv ?_
 obtain ⟨v1,V1,F1⟩:=zc F0
 refine zx [] (m_impl_hitVars_ok fuel _ _ V1) ?_
 refine s_mv ?_
 refine zbJ ?_
 refine zbJ ?_
 refine s_as ?_
 refine s_as ?_
 refine zf (zd (zb (za ?_)))
 refine s_mv ?_
 obtain ⟨v2,V2,F2⟩:=zc F1
 refine zx [] (m_impl_HitsValid_ok fuel _ _ V2) ?_
 refine s_mv ?_
 refine zo _ 14 F2 ?_ ?_<;>intro C3 F3
 refine zJ yA27 yS27 ?_
 refine s_mv ?_
 refine s_mv ?_
 obtain ⟨v4,V4,F4⟩:=zc F3
 refine zx [] (m_impl_templateOk_ok fuel _ _ _ _ V4) ?_
 refine zz ?_
 refine s_as ?_
 refine zf (zd (zh (zn ?_)))
 cases F4
 exact zl [] [] Tryz.results37
 iterate 4 refine r_no rfl ?_
 refine zB ?_
 refine s_as ?_
 refine zf (zd (zh (zn ?_)))
 cases F3
 exact zl [] [] Tryz.results37
def zeQ (fuel:Nat):Prop:=∀ (x1:Form) (r:Int),zcS fuel x1=some r→AC Tryz.prog 93 [.ag [.t (.sc (.int .i64 x1.kind)),.t (.sc (.str x1.name)),.t (.sc (.int .i64 x1.n)),.t (.sl (x1.scopes.map rI)),.t (.sl (x1.kids.map Form.row))]] noOb (.t (.sc (.int .i64 r))) noOb
theorem m_impl_FormSize_st (fu:Nat) (ih_m_impl_FormSize:∀ k,k≤fu→zeQ k):zeQ (fu+1):=by
 intro x1 r F0
 rw [zcS] at F0
 refine AC_i [.t (.sc (.int .i64 r))] Tryz.func93 rfl Tryz.ntmps93 ?_
 intro C hC
 refine zb (za ?_)
 refine za9 ?_
 refine s_as ?_
 refine zf (zd (zb (za ?_)))
 refine s_as ?_
 refine zf (zd (zb (zb (za ?_))))
 refine s_fa zH ?_
 refine zu yA25 ?_
 refine zF yU25 ?_
 refine s_mv ?_
 refine zf (zd (zk ?_))
 refine zbk (β:=Int × Int) [3,5,9,10,11,12,13,14,15,16,17] [] [5] (fun a=>[(3,.t (.sc (.int .i64 a.2.1))),(9,.t (.sc (.int .i64 a.2.2)))]) (fun a=>[]) (fun a=>a.1≤fu∧zbK a.1 x1 a.2.1 a.2.2=some r∧0≤a.2.2) (fu,1,0) ⟨Nat.le_refl _,F0,by simp⟩ ?_
 clear F0
 rintro ⟨fu,g1,g2⟩ ⟨hl3,F1,hn_g2⟩
 dsimp only at hl3 F1 hn_g2 ⊢
 obtain _ | fu:=fu
 · rw [zbK] at F1;cases F1
 rw [zbK] at F1
 refine zb (za ?_)
 refine s_lt ?_
 refine zf (zd (zb ?_))
 refine zm F1 ?_ ?_<;>intro C4 F2
 refine zW 7 (fun B5=>?_)
 refine zi (zd (zb (zk (zb (za ?_)))))
 obtain ⟨v6,V6,F3⟩:=zc F2
 refine zN Form.row V6 (Form.row_eq _) yE25 ?_
 refine zas yA27 yS27 ?_
 refine zR yZ27 ?_
 refine zac yS27 ?_
 refine zf (zd (za ?_))
 refine s_mv ?_
 refine zJ yA27 yS27 ?_
 obtain ⟨v7,V7,F4⟩:=zc F3
 refine zx [] (ih_m_impl_FormSize fu (by omega) _ _ V7) ?_
 refine zO rfl ?_
 refine s_as ?_
 refine zf (zaa (zd (za ?_)))
 refine zO (zaJ C4 B5 hn_g2) ?_
 refine s_mv ?_
 refine zf ?_
 exact s_rn (fu,(w64 (g1+v7)),(g2+1)) ⟨by first | omega | (dsimp only;omega),F4,by first | omega | (dsimp only;omega)⟩
 refine zA (zq (zp (zr (zd (zb (za ?_))))))
 refine s_mv ?_
 refine s_as ?_
 refine zf (zd (zh (zn ?_)))
 cases F2
 exact zl [] [] Tryz.results93
theorem m_impl_FormSize_all (fuel:Nat):zeQ fuel:=by
 induction fuel using Nat.strongRecOn with
 | _ N ih =>
   cases N with
   | zero=>exact (by intro x1 r h;rw [zcS] at h;cases h)
   | succ fu=>exact m_impl_FormSize_st fu (fun k hk=>(ih k (by omega)))
theorem m_impl_FormSize_ok (fuel:Nat):zeQ fuel:=(m_impl_FormSize_all fuel)
def m_impl_fill_2_AC (fuel:Nat):Prop:=∀ (x1:Form) (o1:Bool) (o2:Hit) (r:Bool),zgT fuel x1 o1 o2=some r→AC Tryz.prog 95 [.ag [.t (.sc (.int .i64 x1.kind)),.t (.sc (.str x1.name)),.t (.sc (.int .i64 x1.n)),.t (.sl (x1.scopes.map rI)),.t (.sl (x1.kids.map Form.row))],.rf 9000 0,.rf 9001 0] (objs [(9000,.box [.t (.sc (.bool o1))]),(9001,.box [.t (.sc (.int .i64 o2.name.kind)),.t (.sc (.str o2.name.name)),.t (.sc (.int .i64 o2.name.n)),.t (.sl (o2.name.scopes.map rI)),.t (.sl (o2.name.kids.map Form.row)),.t (.sc (.int .i64 o2.depth)),.t (.sc (.int .i64 o2.one.kind)),.t (.sc (.str o2.one.name)),.t (.sc (.int .i64 o2.one.n)),.t (.sl (o2.one.scopes.map rI)),.t (.sl (o2.one.kids.map Form.row)),.t (.sl (o2.many.map Hit.row))])]) (.tp []) (objs [(9000,.box [.t (.sc (.bool r))]),(9001,.box [.t (.sc (.int .i64 o2.name.kind)),.t (.sc (.str o2.name.name)),.t (.sc (.int .i64 o2.name.n)),.t (.sl (o2.name.scopes.map rI)),.t (.sl (o2.name.kids.map Form.row)),.t (.sc (.int .i64 o2.depth)),.t (.sc (.int .i64 o2.one.kind)),.t (.sc (.str o2.one.name)),.t (.sc (.int .i64 o2.one.n)),.t (.sl (o2.one.scopes.map rI)),.t (.sl (o2.one.kids.map Form.row)),.t (.sl (o2.many.map Hit.row))])])
theorem m_impl_fill_2_ok (fuel:Nat):m_impl_fill_2_AC fuel:=by
 intro x1 o1 o2 r F0
 unfold zgT at F0
 refine AC_i [] Tryz.func95 rfl Tryz.ntmps95 ?_
 intro C hC
 refine zb (za ?_)
 refine za9 ?_
 refine zf (zd (za ?_))
 refine zu yA4 ?_
 refine s_mv ?_
 refine zo _ 5 F0 ?_ ?_<;>intro C1 F1
 iterate 4 refine r_no rfl ?_
 refine zz ?_
 refine zac yS4 ?_
 refine zf (zhD ?_)
 cases F1
 exact zl _ [] Tryz.results95
 refine zJ yA27 yS27 ?_
 refine s_fa zfi ?_
 refine zas yA27 yS27 ?_
 obtain ⟨v2,V2,F2⟩:=zc F1
 refine zx [] (zbL fuel _ _ _ V2) ?_
 refine zB ?_
 refine zac yS4 ?_
 refine zf (zhD ?_)
 cases F2
 exact zl _ [] Tryz.results95
end Go.Abs
