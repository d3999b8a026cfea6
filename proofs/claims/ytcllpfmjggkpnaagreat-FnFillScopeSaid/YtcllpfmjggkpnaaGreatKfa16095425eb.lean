/- A part of the proof: what the functions that the law calls answer, as pure values. -/
import Derived.Test.YtcllpfmjggkpnaaGreatK87b9047474df
import Derived.Test.YtcllpfmjggkpnaaGreatKcd1b73107f87
import Derived.Test.YtcllpfmjggkpnaaGreatK91fcc0fd7672
import Derived.Test.YtcllpfmjggkpnaaGreatKf8320a019dd3
import Derived.Test.YtcllpfmjggkpnaaGreatK51caa9494268
import Derived.Test.YtcllpfmjggkpnaaGreatKa8136476e481
import Derived.Test.YtcllpfmjggkpnaaGreatK1df75f79e59f
set_option linter.unusedSimpArgs false
set_option linter.unusedVariables false
set_option maxRecDepth 100000
set_option maxHeartbeats 4000000
namespace Go.Abs
open Go.Proofs
theorem m_impl_hitOk_1_st (fu:Nat) (ih_m_impl_hitOk:∀ k,k≤fu→zdu k) (ih_m_impl_hitOk_1:∀ k,k≤fu→zdo k) (ih_m_slices_ContainsFunc_Hit_hitOk_1:∀ k,k≤fu→zan k) (ih_m_slices_IndexFunc_Hit_hitOk_1:∀ k,k≤fu→zax k):zdo (fu+1):=by
 intro x1 o1 r F0
 rw [zdQ] at F0
 refine AC_i [.t (.sc (.bool r))] Tryz.func82 rfl Tryz.ntmps82 ?_
 intro C hC
 refine zb (za ?_)
 refine za9 ?_
 refine s_as ?_
 refine zf (zd (zb (za ?_)))
 refine s_fa zfi ?_
 refine zas yA27 yS27 ?_
 refine s_fa zfi ?_
 refine zas yA27 yS27 ?_
 obtain ⟨v1,V1,F1⟩:=zc F0
 refine zx [] (zbL fu _ _ _ V1) ?_
 refine zbq ?_
 refine s_mv ?_
 refine zo _ 10 F1 ?_ ?_<;>intro C2 F2
 iterate 6 refine r_no rfl ?_
 refine zz ?_
 refine s_mv ?_
 iterate 3 refine r_no rfl ?_
 refine zz ?_
 refine s_as ?_
 refine zf (zd (zh (zn ?_)))
 cases F2
 exact zl _ [] Tryz.results82
 refine s_fa zgc ?_
 refine zu yA3 ?_
 refine s_fa zgc ?_
 refine zu yA3 ?_
 refine zhq rfl ?_
 refine s_ne ?_
 refine zB ?_
 refine s_mv ?_
 refine zo _ 18 F2 ?_ ?_<;>intro C3 F3
 iterate 3 refine r_no rfl ?_
 refine zz ?_
 refine s_as ?_
 refine zf (zd (zh (zn ?_)))
 cases F3
 exact zl _ [] Tryz.results82
 refine zJ yA38 yS38 ?_
 obtain ⟨v4,V4,F4⟩:=zc F3
 refine zx [] (ih_m_impl_hitOk fu (by omega) _ _ V4) ?_
 refine zbq ?_
 refine zB ?_
 refine s_as ?_
 refine zf (zd (zh (zn ?_)))
 cases F4
 exact zl _ [] Tryz.results82
theorem zfo (fu:Nat) (ih_m_impl_hitOk:∀ k,k≤fu→zdu k) (ih_m_impl_hitOk_1:∀ k,k≤fu→zdo k) (ih_m_slices_ContainsFunc_Hit_hitOk_1:∀ k,k≤fu→zan k) (ih_m_slices_IndexFunc_Hit_hitOk_1:∀ k,k≤fu→zax k):zan (fu+1):=by
 intro x1 o1 r F0
 rw [zaP] at F0
 refine AC_i [.t (.sc (.bool r))] Tryz.func81 rfl Tryz.ntmps81 ?_
 intro C hC
 refine zb (za ?_)
 refine s_as ?_
 refine zf (zd (zb (za ?_)))
 refine s_mv ?_
 refine s_mv ?_
 obtain ⟨v1,V1,F1⟩:=zc F0
 refine zU [(9000,9000)] [] _ _ (ih_m_slices_IndexFunc_Hit_hitOk_1 fu (by omega) _ _ _ V1) ?_
 refine s_ge ?_
 refine s_as ?_
 refine zf (zd (zh (zn ?_)))
 cases F1
 exact zl _ [] Tryz.results81
theorem zf4 (fu:Nat) (ih_m_impl_hitOk:∀ k,k≤fu→zdu k) (ih_m_impl_hitOk_1:∀ k,k≤fu→zdo k) (ih_m_slices_ContainsFunc_Hit_hitOk_1:∀ k,k≤fu→zan k) (ih_m_slices_IndexFunc_Hit_hitOk_1:∀ k,k≤fu→zax k):zax (fu+1):=by
 intro x1 o1 r F0
 rw [za1] at F0
 refine AC_i [.t (.sc (.int .i64 r))] Tryz.func124 rfl Tryz.ntmps124 ?_
 intro C hC
 refine zb (za ?_)
 refine s_as ?_
 refine zf (zd (zb (zb (za ?_))))
 refine s_mv ?_
 refine zF yU30 ?_
 refine s_mv ?_
 refine zf (zd (zk ?_))
 refine zbk (β:=Int) [4,5,8,9,10,11,12,13,14,15,16,17,18] [] [] (fun a=>[(8,.t (.sc (.int .i64 a.2)))]) (fun a=>[]) (fun a=>a.1≤fu∧zaj a.1 x1 o1 a.2=some r∧0≤a.2) (fu,0) ⟨Nat.le_refl _,F0,by simp⟩ ?_
 clear F0
 rintro ⟨fu,g1⟩ ⟨hl2,F1,hn_g1⟩
 dsimp only at hl2 F1 hn_g1 ⊢
 obtain _ | fu:=fu
 · rw [zaj] at F1;cases F1
 rw [zaj] at F1
 refine zb (za ?_)
 refine s_lt ?_
 refine zf (zd (zb ?_))
 refine zm F1 ?_ ?_<;>intro C3 F2
 refine zW 0 (fun B4=>?_)
 refine zi (zd (zb (zk (zb (za ?_)))))
 refine s_mv ?_
 refine s_as ?_
 refine zf (zd (zb (za ?_)))
 iterate 3 refine s_mv ?_
 obtain ⟨v5,V5,F3⟩:=zc F2
 refine zN Hit.row V5 (Hit.row_eq _) yE30 ?_
 refine zas yA38 yS38 ?_
 obtain ⟨v6,V6,F4⟩:=zc F3
 refine zU [(9000,9000)] [] _ _ (ih_m_impl_hitOk_1 fu (by omega) _ _ _ V6) ?_
 refine zf (zd ?_)
 refine zm F4 ?_ ?_<;>intro C7 F5
 refine zb (za ?_)
 refine s_mv ?_
 refine s_as ?_
 refine zf (zd (zh (zj (zg (zy (zj (zg (zn ?_))))))))
 cases F5
 exact zl _ [] Tryz.results124
 refine zi (zaa (zd (za ?_)))
 refine zO (zaJ C3 B4 hn_g1) ?_
 refine s_mv ?_
 refine zf ?_
 exact s_rn (fu,(g1+1)) ⟨by first | omega | (dsimp only;omega),F5,by first | omega | (dsimp only;omega)⟩
 refine zA (zq (zp (zr (zd (zb (za ?_))))))
 refine s_as ?_
 refine zf (zd (zh (zn ?_)))
 cases F2
 exact zl _ [] Tryz.results124
theorem m_impl_hitOk_all (fuel:Nat):zdu fuel∧zdo fuel∧zan fuel∧zax fuel:=by
 induction fuel using Nat.strongRecOn with
 | _ N ih =>
   cases N with
   | zero=>exact ⟨(by intro x1 r h;rw [zd6] at h;cases h),(by intro x1 o1 r h;rw [zdQ] at h;cases h),(by intro x1 o1 r h;rw [zaP] at h;cases h),(by intro x1 o1 r h;rw [za1] at h;cases h)⟩
   | succ fu=>exact ⟨m_impl_hitOk_st fu (fun k hk=>(ih k (by omega)).1) (fun k hk=>(ih k (by omega)).2.1) (fun k hk=>(ih k (by omega)).2.2.1) (fun k hk=>(ih k (by omega)).2.2.2),m_impl_hitOk_1_st fu (fun k hk=>(ih k (by omega)).1) (fun k hk=>(ih k (by omega)).2.1) (fun k hk=>(ih k (by omega)).2.2.1) (fun k hk=>(ih k (by omega)).2.2.2),zfo fu (fun k hk=>(ih k (by omega)).1) (fun k hk=>(ih k (by omega)).2.1) (fun k hk=>(ih k (by omega)).2.2.1) (fun k hk=>(ih k (by omega)).2.2.2),zf4 fu (fun k hk=>(ih k (by omega)).1) (fun k hk=>(ih k (by omega)).2.1) (fun k hk=>(ih k (by omega)).2.2.1) (fun k hk=>(ih k (by omega)).2.2.2)⟩
theorem m_impl_hitOk_ok (fuel:Nat):zdu fuel:=(m_impl_hitOk_all fuel).1
def m_spec_l5Texts_AC (fuel:Nat):Prop:=∀  (r:(List (List ByteArray))),zgq fuel =some r→AC Tryz.prog 125 [] noOb (.t (.sl (r.map (rL rS)))) noOb
theorem m_spec_l5Texts_ok (fuel:Nat):m_spec_l5Texts_AC fuel:=by
 intro  r F0
 unfold zgq at F0
 refine AC_i [.t (.sl (r.map (rL rS)))] Tryz.func125 rfl Tryz.ntmps125 ?_
 intro C hC
 refine zb (za ?_)
 refine s_as ?_
 refine zf (zd (zb (za ?_)))
 refine s_bs rS [(⟨#[40,114,117,108,101,115,32,40,41,32,40,40,95,32,97,32,98,41,32,40,108,101,116,32,40,40,116,109,112,32,97,41,41,32,40,108,105,115,116,32,98,32,116,109,112,41,41,41,41]⟩:ByteArray),(⟨#[40,115,119,97,112,32,120,32,121,41]⟩:ByteArray)] yP70 yR9 ?_
 refine s_bs rS [(⟨#[40,114,117,108,101,115,32,40,41,32,40,40,95,41,32,48,41,32,40,40,95,32,97,41,32,97,41,32,40,40,95,32,97,32,98,32,46,46,46,41,32,40,105,102,32,97,32,49,32,40,111,114,32,98,32,46,46,46,41,41,41,41]⟩:ByteArray),(⟨#[40,111,114,32,120,32,121,32,122,41]⟩:ByteArray)] yP70 yR9 ?_
 refine s_bs rS [(⟨#[40,114,117,108,101,115,32,40,41,32,40,40,95,32,40,40,120,32,118,41,32,46,46,46,41,32,98,111,100,121,41,32,40,40,108,97,109,98,100,97,32,40,120,32,46,46,46,41,32,98,111,100,121,41,32,118,32,46,46,46,41,41,41]⟩:ByteArray),(⟨#[40,109,121,108,101,116,32,40,40,112,32,49,41,32,40,113,32,50,41,41,32,40,102,32,112,32,113,41,41]⟩:ByteArray)] yP70 yR9 ?_
 refine s_bs rS [(⟨#[40,114,117,108,101,115,32,40,101,108,115,101,41,32,40,40,95,32,101,108,115,101,32,101,41,32,101,41,32,40,40,95,32,99,32,101,32,114,32,46,46,46,41,32,40,105,102,32,99,32,101,32,40,99,111,110,100,32,114,32,46,46,46,41,41,41,41]⟩:ByteArray),(⟨#[40,99,111,110,100,32,112,32,49,32,101,108,115,101,32,50,41]⟩:ByteArray)] yP70 yR9 ?_
 refine s_bs rS [(⟨#[40,114,117,108,101,115,32,40,41,32,40,40,95,32,40,97,32,98,32,46,46,46,41,32,46,46,46,41,32,40,109,32,40,97,32,46,46,46,41,32,40,40,97,32,98,32,46,46,46,41,32,46,46,46,41,32,49,41,41,41]⟩:ByteArray),(⟨#[40,109,32,40,120,32,49,32,50,41,32,40,121,41,41]⟩:ByteArray)] yP70 yR9 ?_
 refine s_bs rS [(⟨#[40,114,117,108,101,115,32,40,41,32,40,40,95,32,97,32,46,46,46,41,32,40,108,105,115,116,32,97,32,46,46,46,32,97,32,46,46,46,41,41,41]⟩:ByteArray),(⟨#[40,116,119,105,99,101,32,49,32,50,41]⟩:ByteArray)] yP70 yR9 ?_
 refine s_bs rS [(⟨#[40,114,117,108,101,115,32,40,41,32,40,40,95,32,97,32,46,46,46,41,32,40,40,97,32,49,41,32,46,46,46,41,41,32,40,40,95,32,98,41,32,98,41,41]⟩:ByteArray),(⟨#[40,112,97,105,114,115,32,112,32,113,41]⟩:ByteArray)] yP70 yR9 ?_
 refine s_bs rS [(⟨#[40,114,117,108,101,115,32,40,41,32,40,40,95,32,97,41,32,97,41,32,40,40,95,32,53,41,32,54,41,32,40,40,95,32,97,32,98,41,32,98,41,41]⟩:ByteArray),(⟨#[40,107,32,53,41]⟩:ByteArray)] yP70 yR9 ?_
 refine s_bs (rL rS) [[(⟨#[40,114,117,108,101,115,32,40,41,32,40,40,95,32,97,32,98,41,32,40,108,101,116,32,40,40,116,109,112,32,97,41,41,32,40,108,105,115,116,32,98,32,116,109,112,41,41,41,41]⟩:ByteArray),(⟨#[40,115,119,97,112,32,120,32,121,41]⟩:ByteArray)],[(⟨#[40,114,117,108,101,115,32,40,41,32,40,40,95,41,32,48,41,32,40,40,95,32,97,41,32,97,41,32,40,40,95,32,97,32,98,32,46,46,46,41,32,40,105,102,32,97,32,49,32,40,111,114,32,98,32,46,46,46,41,41,41,41]⟩:ByteArray),(⟨#[40,111,114,32,120,32,121,32,122,41]⟩:ByteArray)],[(⟨#[40,114,117,108,101,115,32,40,41,32,40,40,95,32,40,40,120,32,118,41,32,46,46,46,41,32,98,111,100,121,41,32,40,40,108,97,109,98,100,97,32,40,120,32,46,46,46,41,32,98,111,100,121,41,32,118,32,46,46,46,41,41,41]⟩:ByteArray),(⟨#[40,109,121,108,101,116,32,40,40,112,32,49,41,32,40,113,32,50,41,41,32,40,102,32,112,32,113,41,41]⟩:ByteArray)],[(⟨#[40,114,117,108,101,115,32,40,101,108,115,101,41,32,40,40,95,32,101,108,115,101,32,101,41,32,101,41,32,40,40,95,32,99,32,101,32,114,32,46,46,46,41,32,40,105,102,32,99,32,101,32,40,99,111,110,100,32,114,32,46,46,46,41,41,41,41]⟩:ByteArray),(⟨#[40,99,111,110,100,32,112,32,49,32,101,108,115,101,32,50,41]⟩:ByteArray)],[(⟨#[40,114,117,108,101,115,32,40,41,32,40,40,95,32,40,97,32,98,32,46,46,46,41,32,46,46,46,41,32,40,109,32,40,97,32,46,46,46,41,32,40,40,97,32,98,32,46,46,46,41,32,46,46,46,41,32,49,41,41,41]⟩:ByteArray),(⟨#[40,109,32,40,120,32,49,32,50,41,32,40,121,41,41]⟩:ByteArray)],[(⟨#[40,114,117,108,101,115,32,40,41,32,40,40,95,32,97,32,46,46,46,41,32,40,108,105,115,116,32,97,32,46,46,46,32,97,32,46,46,46,41,41,41]⟩:ByteArray),(⟨#[40,116,119,105,99,101,32,49,32,50,41]⟩:ByteArray)],[(⟨#[40,114,117,108,101,115,32,40,41,32,40,40,95,32,97,32,46,46,46,41,32,40,40,97,32,49,41,32,46,46,46,41,41,32,40,40,95,32,98,41,32,98,41,41]⟩:ByteArray),(⟨#[40,112,97,105,114,115,32,112,32,113,41]⟩:ByteArray)],[(⟨#[40,114,117,108,101,115,32,40,41,32,40,40,95,32,97,41,32,97,41,32,40,40,95,32,53,41,32,54,41,32,40,40,95,32,97,32,98,41,32,98,41,41]⟩:ByteArray),(⟨#[40,107,32,53,41]⟩:ByteArray)]] yP67 yR70 ?_
 refine s_as ?_
 refine zf (zd (zh (zn ?_)))
 cases F0
 exact zl [] [9] Tryz.results125
def m_spec_l5Shape_AC (fuel:Nat):Prop:=∀ (x1:Form) (x2:(List Form)) (r:(List Hit)),zfk fuel x1 x2=some r→AC Tryz.prog 155 [.ag [.t (.sc (.int .i64 x1.kind)),.t (.sc (.str x1.name)),.t (.sc (.int .i64 x1.n)),.t (.sl (x1.scopes.map rI)),.t (.sl (x1.kids.map Form.row))],.t (.sl (x2.map Form.row))] noOb (.t (.sl (r.map Hit.row))) noOb
theorem m_spec_l5Shape_ok (fuel:Nat):m_spec_l5Shape_AC fuel:=by
 intro x1 x2 r F0
 unfold zfk at F0
 refine AC_i [.t (.sl (r.map Hit.row))] Tryz.func155 rfl Tryz.ntmps155 ?_
 intro C hC
 refine zb (za ?_)
 refine za9 ?_
 refine s_as ?_
 refine zf (zd (zb (za ?_)))
 refine s_bs Hit.row ([]:List Hit) yP30 yR38 ?_
 refine s_as ?_
 refine zf (zd (zb (za ?_)))
 refine s_bs Form.row ([]:List Form) yP25 yR27 ?_
 refine zJ yA27 yS27 ?_
 refine s_mv ?_
 obtain ⟨v1,V1,F1⟩:=zc F0
 refine zU [(9300,11),(9200,12014)] [] _ _ (zgD fuel _ _ _ _ V1) ?_
 refine s_as ?_
 refine zf (zd (zb (za ?_)))
 refine s_bs rI ([]:List Int) yP24 yR3 ?_
 refine zJ yA27 yS27 ?_
 refine s_mv ?_
 obtain ⟨v2,V2,F2⟩:=zc F1
 refine zU [(9300,15),(9200,12018)] [] _ _ (zf0 fuel _ _ _ _ _ V2) ?_
 refine s_as ?_
 refine zf (zd (zb (zb (za ?_))))
 refine s_as ?_
 refine zf (zd (zk ?_))
 refine zdl 5 10 5020 (by conv=>lhs;whnf) (by conv=>lhs;whnf) rfl ?_
 refine zap [5,8,9,19,20,21,22,23,24,25,26,27,28,29,30,31,32,33,34,35,36,37,38,39,40,41,42,43,44,45] [5020] [9,44,45] [5020] (fun a:Nat × (List Hit) × Int=>a.1) (fun a:Nat × (List Hit) × Int=>[(5,.ar 5020),(8,.t (.sc (.int .i64 a.2.2)))]) (fun a:Nat × (List Hit) × Int=>[(5020,.arr (a.2.1.map Hit.row) 38 true)]) (fun a:Nat × (List Hit) × Int=>a.1≤fuel∧zbF a.1 v1 v2 a.2.1 a.2.2=some r∧0≤a.2.2) (fuel,([]:List Hit),0) ⟨Nat.le_refl _,F2,by simp⟩ (by rfl) (by rfl) (fun _=>rfl) (zG (by conv=>lhs;whnf) (by rfl) (zG (by conv=>lhs;whnf) (by rfl) za7)) (zT (by conv=>lhs;whnf) (by rfl) zaW) (zb7 hC rfl) (by repeat (first | exact zai rfl | refine zat rfl ?_ | refine zX rfl ?_)) (by repeat (first | exact zaL | exact zam rfl | refine zau rfl ?_ | refine zY rfl ?_)) ?_
 clear F2
 rintro ⟨fu,g3,g4⟩ ⟨hl5,F3,hn_g4⟩
 dsimp only at hl5 F3 hn_g4 ⊢
 obtain _ | fu:=fu
 · rw [zbF] at F3;cases F3
 rw [zbF] at F3
 refine zb (zb (za ?_))
 refine s_mv ?_
 refine s_mv ?_
 refine zhs yU25 ?_
 refine s_lt ?_
 refine zf (zd ?_)
 refine zm F3 ?_ ?_<;>intro C6 F4
 refine zhU 6 12014 (fun B7=>?_)
 refine zi (zd (zb (zk (zb ?_))))
 refine z7 yMix (by kernel_rfl) ?_
 refine zhr ?_
 refine s_mv ?_
 obtain ⟨v8,V8,F5⟩:=zc F4
 refine s_ixA Form.row V8 yE25 ?_
 refine s_lAN Form.row V8 (Form.row_eq _) yA27 yS27 ?_
 refine zhr ?_
 refine s_mv ?_
 obtain ⟨v9,V9,F6⟩:=zc F5
 refine s_ixA rI V9 yE24 ?_
 refine s_lA1 rI V9 rfl yA3 ?_
 refine zeJ yZ38 yL38 ?_
 refine zR yZ38 ?_
 refine zac yS38 ?_
 refine zar (by kernel_rfl) ?_
 refine zd (zb (zb (za ?_)))
 refine s_fa zgc ?_
 refine zu yA3 ?_
 refine s_eq ?_
 refine zf (zd ?_)
 refine zm F6 ?_ ?_<;>intro C10 F7
 refine za ?_
 refine s_mv ?_
 refine s_mv ?_
 obtain ⟨v11,V11,F8⟩:=zc F7
 refine s_ixA Form.row V11 yE25 ?_
 refine s_lAN Form.row V11 (Form.row_eq _) yA27 yS27 ?_
 refine s_fa yF38_2 ?_
 refine zgO yS27 ?_
 refine zf (zd (za ?_))
 refine s_mv ?_
 refine zJ yA38 yS38 ?_
 refine s_bs Hit.row [(Hit.mk v8 v9 v11 ([]:List Hit))] yP30 yR38 ?_
 obtain ⟨hk12,F9⟩:=zab F8
 refine zd4 Hit.row (fun y=>Hit.row_len y) hk12 yP30 ?_
 refine s_as ?_
 refine zf (zaa (zd (za ?_)))
 refine s_mv ?_
 refine zO (zaJ C6 B7 hn_g4) ?_
 refine s_as ?_
 refine zf ?_
 exact s_rn (fu,(g3++[(Hit.mk v8 v9 v11 ([]:List Hit))]),(g4+1)) ⟨by first | omega | (dsimp only;omega),F9,by first | omega | (dsimp only;omega)⟩ [(5020,45)]
 refine zi (zd (za ?_))
 refine s_mv ?_
 refine zJ yA38 yS38 ?_
 refine s_bs Hit.row [(Hit.mk v8 v9 (Form.mk 0 (⟨#[]⟩:ByteArray) 0 ([]:List Int) ([]:List Form)) ([]:List Hit))] yP30 yR38 ?_
 obtain ⟨hk13,F8⟩:=zab F7
 refine zd4 Hit.row (fun y=>Hit.row_len y) hk13 yP30 ?_
 refine s_as ?_
 refine zf (zaa (zd (za ?_)))
 refine s_mv ?_
 refine zO (zaJ C6 B7 hn_g4) ?_
 refine s_as ?_
 refine zf ?_
 exact s_rn (fu,(g3++[(Hit.mk v8 v9 (Form.mk 0 (⟨#[]⟩:ByteArray) 0 ([]:List Int) ([]:List Form)) ([]:List Hit))]),(g4+1)) ⟨by first | omega | (dsimp only;omega),F8,by first | omega | (dsimp only;omega)⟩ [(5020,45)]
 refine zA (zq (zp (zr (zd (zb (za ?_))))))
 refine s_mv ?_
 refine s_as ?_
 refine zf (zd (zh (zn ?_)))
 cases F4
 exact zl [] [5020] Tryz.results155
def m_spec_l4Find_AC (fuel:Nat):Prop:=∀ (x1:(List Hit)) (x2:Form) (r:Int),zd9 fuel x1 x2=some r→AC Tryz.prog 100 [.t (.sl (x1.map Hit.row)),.ag [.t (.sc (.int .i64 x2.kind)),.t (.sc (.str x2.name)),.t (.sc (.int .i64 x2.n)),.t (.sl (x2.scopes.map rI)),.t (.sl (x2.kids.map Form.row))]] noOb (.t (.sc (.int .i64 r))) noOb
theorem m_spec_l4Find_ok (fuel:Nat):m_spec_l4Find_AC fuel:=by
 intro x1 x2 r F0
 unfold zd9 at F0
 refine AC_i [.t (.sc (.int .i64 r))] Tryz.func100 rfl Tryz.ntmps100 ?_
 intro C hC
 refine zb (za ?_)
 refine za9 ?_
 refine s_as ?_
 refine zf (zd (zb (zb (za ?_))))
 refine s_as ?_
 refine zf (zd (zk ?_))
 refine zbk (β:=Int) [4,5,6,7,8,9,10,11,12,13,14,15,16,17,18,19] [] [] (fun a=>[(5,.t (.sc (.int .i64 a.2)))]) (fun a=>[]) (fun a=>a.1≤fuel∧zbU a.1 x1 x2 a.2=some r∧0≤a.2) (fuel,0) ⟨Nat.le_refl _,F0,by simp⟩ ?_
 clear F0
 rintro ⟨fu,g1⟩ ⟨hl2,F1,hn_g1⟩
 dsimp only at hl2 F1 hn_g1 ⊢
 obtain _ | fu:=fu
 · rw [zbU] at F1;cases F1
 rw [zbU] at F1
 refine zb (zb (za ?_))
 refine s_mv ?_
 refine s_mv ?_
 refine zF yU30 ?_
 refine s_lt ?_
 refine zf (zd ?_)
 refine zm F1 ?_ ?_<;>intro C3 F2
 refine zW 0 (fun B4=>?_)
 refine zi (zd (zb (zk (zb ?_))))
 refine z7 yMix (by kernel_rfl) ?_
 refine s_mv ?_
 refine s_mv ?_
 obtain ⟨v5,V5,F3⟩:=zc F2
 refine zN Hit.row V5 (Hit.row_eq _) yE30 ?_
 refine s_fa zfi ?_
 refine zas yA27 yS27 ?_
 refine zJ yA27 yS27 ?_
 obtain ⟨v6,V6,F4⟩:=zc F3
 refine zx [] (zcb fu _ _ _ V6) ?_
 refine zar (by kernel_rfl) ?_
 refine zd ?_
 refine zm F4 ?_ ?_<;>intro C7 F5
 refine zb (za ?_)
 refine s_mv ?_
 refine s_as ?_
 refine zf (zd (zh (zj (zg (zy (zj (zg (zn ?_))))))))
 cases F5
 exact zl [] [] Tryz.results100
 refine zi (zaa (zd (za ?_)))
 refine s_mv ?_
 refine zO (zaJ C3 B4 hn_g1) ?_
 refine s_as ?_
 refine zf ?_
 exact s_rn (fu,(g1+1)) ⟨by first | omega | (dsimp only;omega),F5,by first | omega | (dsimp only;omega)⟩
 refine zA (zq (zp (zr (zd (zb (za ?_))))))
 refine s_as ?_
 refine zf (zd (zh (zn ?_)))
 cases F2
 exact zl [] [] Tryz.results100
def m_spec_l5Depth_AC (fuel:Nat):Prop:=∀ (x1:(List Hit)) (x2:Form) (r:Int),zeE fuel x1 x2=some r→AC Tryz.prog 131 [.t (.sl (x1.map Hit.row)),.ag [.t (.sc (.int .i64 x2.kind)),.t (.sc (.str x2.name)),.t (.sc (.int .i64 x2.n)),.t (.sl (x2.scopes.map rI)),.t (.sl (x2.kids.map Form.row))]] noOb (.t (.sc (.int .i64 r))) noOb
theorem zhx (fuel:Nat):m_spec_l5Depth_AC fuel:=by
 intro x1 x2 r F0
 unfold zeE at F0
 refine AC_i [.t (.sc (.int .i64 r))] Tryz.func131 rfl Tryz.ntmps131 ?_
 intro C hC
 refine zb (za ?_)
 refine za9 ?_
 refine s_as ?_
 refine zf (zd (zb (zb (za ?_))))
 refine s_fa zcT ?_
 refine zu yA3 ?_
 refine s_ne ?_
 refine zf (zd ?_)
 refine zm F0 ?_ ?_<;>intro C1 F1
 refine zb (za ?_)
 refine s_as ?_
 refine zf (zd (zh (zg (zn ?_))))
 cases F1
 exact zl [] [] Tryz.results131
 refine zi (zd (zb (za ?_)))
 refine s_mv ?_
 refine zJ yA27 yS27 ?_
 obtain ⟨v2,V2,F2⟩:=zc F1
 refine zx [] (m_spec_l4Find_ok fuel _ _ _ V2) ?_
 refine s_as ?_
 refine zf (zd (zb (zb (za ?_))))
 refine s_mv ?_
 refine s_lt ?_
 refine zf (zd ?_)
 refine zm F2 ?_ ?_<;>intro C3 F3
 refine zb (za ?_)
 refine s_as ?_
 refine zf (zd (zh (zg (zn ?_))))
 cases F3
 exact zl [] [] Tryz.results131
 refine zi (zd (zb (za ?_)))
 refine s_mv ?_
 refine s_mv ?_
 obtain ⟨v4,V4,F4⟩:=zc F3
 refine zN Hit.row V4 (Hit.row_eq _) yE30 ?_
 refine s_fa zgc ?_
 refine zu yA3 ?_
 refine s_as ?_
 refine zf (zd (zh (zn ?_)))
 cases F4
 exact zl [] [] Tryz.results131
def zfv (fuel:Nat):Prop:=∀ (x1:(List Hit)) (x2:Form) (r:Bool),zd8 fuel x1 x2=some r→AC Tryz.prog 132 [.t (.sl (x1.map Hit.row)),.ag [.t (.sc (.int .i64 x2.kind)),.t (.sc (.str x2.name)),.t (.sc (.int .i64 x2.n)),.t (.sl (x2.scopes.map rI)),.t (.sl (x2.kids.map Form.row))]] noOb (.t (.sc (.bool r))) noOb
theorem m_spec_l5Rows_st (fu:Nat) (ih_m_spec_l5Rows:∀ k,k≤fu→zfv k):zfv (fu+1):=by
 intro x1 x2 r F0
 rw [zd8] at F0
 refine AC_i [.t (.sc (.bool r))] Tryz.func132 rfl Tryz.ntmps132 ?_
 intro C hC
 refine zb (za ?_)
 refine za9 ?_
 refine s_as ?_
 refine zf (zd (zb (zb (za ?_))))
 refine s_mv ?_
 refine zJ yA27 yS27 ?_
 obtain ⟨v1,V1,F1⟩:=zc F0
 refine zx [] (zhx fu _ _ _ V1) ?_
 refine s_gt ?_
 refine zf (zd ?_)
 refine zm F1 ?_ ?_<;>intro C2 F2
 refine zb (za ?_)
 refine s_as ?_
 refine zf (zd (zh (zg (zn ?_))))
 cases F2
 exact zl [] [] Tryz.results132
 refine zi (zd (zb (zb (za ?_))))
 refine s_as ?_
 refine zf (zd (zk ?_))
 refine zbk (β:=Int) [4,5,10,11,12,13,14,15,16,17,18,19,20,21,22,23] [] [] (fun a=>[(5,.t (.sc (.int .i64 a.2)))]) (fun a=>[]) (fun a=>a.1≤fu∧zck a.1 x1 x2 a.2=some r∧0≤a.2) (fu,0) ⟨Nat.le_refl _,F2,by simp⟩ ?_
 clear F2
 rintro ⟨fu,g3⟩ ⟨hl4,F3,hn_g3⟩
 dsimp only at hl4 F3 hn_g3 ⊢
 obtain _ | fu:=fu
 · rw [zck] at F3;cases F3
 rw [zck] at F3
 refine zb (zb (za ?_))
 refine s_mv ?_
 refine s_fa zH ?_
 refine zu yA25 ?_
 refine zF yU25 ?_
 refine s_lt ?_
 refine zf (zd ?_)
 refine zm F3 ?_ ?_<;>intro C5 F4
 refine zW 12 (fun B6=>?_)
 refine zi (zd (zb (zk (zb (za ?_)))))
 refine s_mv ?_
 refine s_fa zH ?_
 refine zu yA25 ?_
 refine s_mv ?_
 obtain ⟨v7,V7,F5⟩:=zc F4
 refine zN Form.row V7 (Form.row_eq _) yE25 ?_
 refine zas yA27 yS27 ?_
 obtain ⟨v8,V8,F6⟩:=zc F5
 refine zx [] (ih_m_spec_l5Rows fu (by omega) _ _ _ V8) ?_
 refine zf (zd ?_)
 refine zm F6 ?_ ?_<;>intro C9 F7
 refine zb (za ?_)
 refine s_as ?_
 refine zf (zd (zh (zj (zg (zy (zj (zg (zn ?_))))))))
 cases F7
 exact zl [] [] Tryz.results132
 refine zi (zaa (zd (za ?_)))
 refine s_mv ?_
 refine zO (zaJ C5 B6 hn_g3) ?_
 refine s_as ?_
 refine zf ?_
 exact s_rn (fu,(g3+1)) ⟨by first | omega | (dsimp only;omega),F7,by first | omega | (dsimp only;omega)⟩
 refine zA (zq (zp (zr (zd (zb (za ?_))))))
 refine s_as ?_
 refine zf (zd (zh (zn ?_)))
 cases F4
 exact zl [] [] Tryz.results132
theorem m_spec_l5Rows_all (fuel:Nat):zfv fuel:=by
 induction fuel using Nat.strongRecOn with
 | _ N ih =>
   cases N with
   | zero=>exact (by intro x1 x2 r h;rw [zd8] at h;cases h)
   | succ fu=>exact m_spec_l5Rows_st fu (fun k hk=>(ih k (by omega)))
theorem m_spec_l5Rows_ok (fuel:Nat):zfv fuel:=(m_spec_l5Rows_all fuel)
def m_spec_l5Less_AC (fuel:Nat):Prop:=∀ (x1:(List Hit)) (r:(List Hit)),zfW fuel x1=some r→AC Tryz.prog 133 [.t (.sl (x1.map Hit.row))] noOb (.t (.sl (r.map Hit.row))) noOb
theorem m_spec_l5Less_ok (fuel:Nat):m_spec_l5Less_AC fuel:=by
 intro x1 r F0
 unfold zfW at F0
 refine AC_i [.t (.sl (r.map Hit.row))] Tryz.func133 rfl Tryz.ntmps133 ?_
 intro C hC
 refine zb (za ?_)
 refine s_as ?_
 refine zf (zd (zb (za ?_)))
 refine s_bs Hit.row ([]:List Hit) yP30 yR38 ?_
 refine s_as ?_
 refine zf (zd (zb (zb (za ?_))))
 refine s_as ?_
 refine zf (zd (zk ?_))
 refine zdl 3 6 5020 (by conv=>lhs;whnf) (by conv=>lhs;whnf) rfl ?_
 refine zap [3,4,5,7,8,9,10,11,12,13,14,15,16,17,18,19,20,21,22,23,24,25,26,27,28,29,30,31,32,33,34,35,36,37,38,39] [5020] [5,38,39] [5020] (fun a:Nat × (List Hit) × Int=>a.1) (fun a:Nat × (List Hit) × Int=>[(3,.ar 5020),(4,.t (.sc (.int .i64 a.2.2)))]) (fun a:Nat × (List Hit) × Int=>[(5020,.arr (a.2.1.map Hit.row) 38 true)]) (fun a:Nat × (List Hit) × Int=>a.1≤fuel∧zbS a.1 x1 a.2.1 a.2.2=some r∧0≤a.2.2) (fuel,([]:List Hit),0) ⟨Nat.le_refl _,F0,by simp⟩ (by rfl) (by rfl) (fun _=>rfl) (zG (by conv=>lhs;whnf) (by rfl) (zG (by conv=>lhs;whnf) (by rfl) za7)) (zT (by conv=>lhs;whnf) (by rfl) zaW) (zb7 hC rfl) (by repeat (first | exact zai rfl | refine zat rfl ?_ | refine zX rfl ?_)) (by repeat (first | exact zaL | exact zam rfl | refine zau rfl ?_ | refine zY rfl ?_)) ?_
 clear F0
 rintro ⟨fu,g1,g2⟩ ⟨hl3,F1,hn_g2⟩
 dsimp only at hl3 F1 hn_g2 ⊢
 obtain _ | fu:=fu
 · rw [zbS] at F1;cases F1
 rw [zbS] at F1
 refine zb (zb (za ?_))
 refine s_mv ?_
 refine s_mv ?_
 refine zF yU30 ?_
 refine s_lt ?_
 refine zf (zd ?_)
 refine zm F1 ?_ ?_<;>intro C4 F2
 refine zW 0 (fun B5=>?_)
 refine zi (zd (zb (zk (zb ?_))))
 refine z7 yMix (by kernel_rfl) ?_
 refine s_mv ?_
 refine s_mv ?_
 obtain ⟨v6,V6,F3⟩:=zc F2
 refine zN Hit.row V6 (Hit.row_eq _) yE30 ?_
 refine s_fa zfi ?_
 refine zas yA27 yS27 ?_
 refine s_mv ?_
 refine s_mv ?_
 obtain ⟨v7,V7,F4⟩:=zc F3
 refine zN Hit.row V7 (Hit.row_eq _) yE30 ?_
 refine s_fa zgc ?_
 refine zu yA3 ?_
 refine s_mv ?_
 refine s_mv ?_
 obtain ⟨v8,V8,F5⟩:=zc F4
 refine zN Hit.row V8 (Hit.row_eq _) yE30 ?_
 refine s_fa yF38_2 ?_
 refine zas yA27 yS27 ?_
 refine zeJ yZ38 yL38 ?_
 refine zR yZ38 ?_
 refine zac yS38 ?_
 refine zar (by kernel_rfl) ?_
 refine zd (zb (zb (za ?_)))
 refine s_fa zgc ?_
 refine zu yA3 ?_
 refine s_gt ?_
 refine zf (zd ?_)
 refine zm F5 ?_ ?_<;>intro C9 F6
 refine za ?_
 refine s_fa zgc ?_
 refine zu yA3 ?_
 refine zhq rfl ?_
 refine s_fa zgc ?_
 refine zgO yS3 ?_
 refine zf (zd (za ?_))
 refine s_mv ?_
 refine zJ yA38 yS38 ?_
 refine s_bs Hit.row [(Hit.mk v6.name (w64 (v7.depth-1)) v8.one ([]:List Hit))] yP30 yR38 ?_
 obtain ⟨hk10,F7⟩:=zab F6
 refine zd4 Hit.row (fun y=>Hit.row_len y) hk10 yP30 ?_
 refine s_as ?_
 refine zf (zaa (zd (za ?_)))
 refine s_mv ?_
 refine zO (zaJ C4 B5 hn_g2) ?_
 refine s_as ?_
 refine zf ?_
 exact s_rn (fu,(g1++[(Hit.mk v6.name (w64 (v7.depth-1)) v8.one ([]:List Hit))]),(g2+1)) ⟨by first | omega | (dsimp only;omega),F7,by first | omega | (dsimp only;omega)⟩ [(5020,39)]
 refine zi (zd (za ?_))
 refine s_mv ?_
 refine zJ yA38 yS38 ?_
 refine s_bs Hit.row [(Hit.mk v6.name v7.depth v8.one ([]:List Hit))] yP30 yR38 ?_
 obtain ⟨hk11,F7⟩:=zab F6
 refine zd4 Hit.row (fun y=>Hit.row_len y) hk11 yP30 ?_
 refine s_as ?_
 refine zf (zaa (zd (za ?_)))
 refine s_mv ?_
 refine zO (zaJ C4 B5 hn_g2) ?_
 refine s_as ?_
 refine zf ?_
 exact s_rn (fu,(g1++[(Hit.mk v6.name v7.depth v8.one ([]:List Hit))]),(g2+1)) ⟨by first | omega | (dsimp only;omega),F7,by first | omega | (dsimp only;omega)⟩ [(5020,39)]
 refine zA (zq (zp (zr (zd (zb (za ?_))))))
 refine s_mv ?_
 refine s_as ?_
 refine zf (zd (zh (zn ?_)))
 cases F2
 exact zl [] [5020] Tryz.results133
def zgr (fuel:Nat):Prop:=∀ (x1:Form) (x2:(List Hit)) (r:Bool),zdq fuel x1 x2=some r→AC Tryz.prog 99 [.ag [.t (.sc (.int .i64 x1.kind)),.t (.sc (.str x1.name)),.t (.sc (.int .i64 x1.n)),.t (.sl (x1.scopes.map rI)),.t (.sl (x1.kids.map Form.row))],.t (.sl (x2.map Hit.row))] noOb (.t (.sc (.bool r))) noOb
theorem m_spec_l5Is_st (fu:Nat) (ih_m_spec_l5Is:∀ k,k≤fu→zgr k):zgr (fu+1):=by
 intro x1 x2 r F0
 rw [zdq] at F0
 refine AC_i [.t (.sc (.bool r))] Tryz.func99 rfl Tryz.ntmps99 ?_
 intro C hC
 refine zb (za ?_)
 refine za9 ?_
 refine s_as ?_
 refine zf (zd (zb (zb (za ?_))))
 refine zJ yA27 yS27 ?_
 obtain ⟨v1,V1,F1⟩:=zc F0
 refine zx [] (zaO fu _ _ V1) ?_
 refine s_mv ?_
 refine zo _ 8 F1 ?_ ?_<;>intro C2 F2
 iterate 4 refine r_no rfl ?_
 refine zz ?_
 refine zf (zd (zM rfl (zb (za ?_))))
 refine s_as ?_
 refine zf (zd (zh (zg (zn ?_))))
 cases F2
 exact zl [] [] Tryz.results99
 refine s_mv ?_
 refine zJ yA27 yS27 ?_
 obtain ⟨v3,V3,F3⟩:=zc F2
 refine zx [] (zhx fu _ _ _ V3) ?_
 refine s_gt ?_
 refine zB ?_
 refine zf (zd ?_)
 refine zm F3 ?_ ?_<;>intro C4 F4
 refine zb (za ?_)
 refine s_as ?_
 refine zf (zd (zh (zg (zn ?_))))
 cases F4
 exact zl [] [] Tryz.results99
 refine zi (zd (zb (zb (za ?_))))
 refine s_as ?_
 refine zf (zd (zk ?_))
 refine zbk (β:=Int) [4,5,14,15,16,17,18,19,20,21,22,23,24,25,26,27,28,29,30,31,32,33,34,35,36,37,38,39,40,41,42,43,44,45,46,47,48,49,50,51,52,53,54,55,56,57,58,59,60,61,62,63,64,65,66,67,68,69,70,71,72,73,74,75,76,77,78,79] [] [] (fun a=>[(5,.t (.sc (.int .i64 a.2)))]) (fun a=>[]) (fun a=>a.1≤fu∧zbB a.1 x1 x2 a.2=some r∧0≤a.2) (fu,0) ⟨Nat.le_refl _,F4,by simp⟩ ?_
 clear F4
 rintro ⟨fu,g5⟩ ⟨hl6,F5,hn_g5⟩
 dsimp only at hl6 F5 hn_g5 ⊢
 obtain _ | fu:=fu
 · rw [zbB] at F5;cases F5
 rw [zbB] at F5
 refine zb (zb (za ?_))
 refine s_mv ?_
 refine s_fa zH ?_
 refine zu yA25 ?_
 refine zF yU25 ?_
 refine s_lt ?_
 refine zf (zd ?_)
 refine zm F5 ?_ ?_<;>intro C7 F6
 refine zW 16 (fun B8=>?_)
 refine zi (zd (zb (zk (zb (zb (za ?_))))))
 refine s_fa zH ?_
 refine zu yA25 ?_
 refine s_mv ?_
 obtain ⟨v9,V9,F7⟩:=zc F6
 refine zN Form.row V9 (Form.row_eq _) yE25 ?_
 refine zas yA27 yS27 ?_
 obtain ⟨v10,V10,F8⟩:=zc F7
 refine zx [] (zaO fu _ _ V10) ?_
 refine zf (zd ?_)
 refine zm F8 ?_ ?_<;>intro C11 F9
 refine zb (zb (za ?_))
 refine s_mv ?_
 refine s_eq ?_
 refine s_mv ?_
 refine zo _ 29 F9 ?_ ?_<;>intro C12 F10
 iterate 7 refine r_no rfl ?_
 refine zz ?_
 refine zf (zd (zM rfl (zb (za ?_))))
 refine s_as ?_
 refine zf (zd (zh (zg (zg (zj (zg (zy (zj (zg (zn ?_))))))))))
 cases F10
 exact zl [] [] Tryz.results99
 refine s_fa zH ?_
 refine zu yA25 ?_
 refine s_mv ?_
 refine zhq rfl ?_
 obtain ⟨v13,V13,F11⟩:=zc F10
 refine zN Form.row V13 (Form.row_eq _) yE25 ?_
 refine zas yA27 yS27 ?_
 obtain ⟨v14,V14,F12⟩:=zc F11
 refine zx [] (zaO fu _ _ V14) ?_
 refine zB ?_
 refine zf (zd ?_)
 refine zm F12 ?_ ?_<;>intro C15 F13
 refine zb (za ?_)
 refine s_as ?_
 refine zf (zd (zh (zg (zg (zj (zg (zy (zj (zg (zn ?_))))))))))
 cases F13
 exact zl [] [] Tryz.results99
 refine zi (zd (zA (zq (zr (zd (za ?_))))))
 refine s_mv ?_
 refine zO (zaJ C7 B8 hn_g5) ?_
 refine s_as ?_
 refine zf ?_
 exact s_rn (fu,(g5+1)) ⟨by first | omega | (dsimp only;omega),F13,by first | omega | (dsimp only;omega)⟩
 refine zi (zd (zb (zb (za ?_))))
 refine s_mv ?_
 refine zO (zaJ C7 B8 hn_g5) ?_
 refine s_fa zH ?_
 refine zu yA25 ?_
 refine zF yU25 ?_
 refine s_lt ?_
 refine s_mv ?_
 refine zo _ 44 F9 ?_ ?_<;>intro C16 F10
 refine s_fa zH ?_
 refine zu yA25 ?_
 refine s_mv ?_
 refine zO (zaJ C7 B8 hn_g5) ?_
 obtain ⟨v17,V17,F11⟩:=zc F10
 refine zN Form.row V17 (Form.row_eq _) yE25 ?_
 refine zas yA27 yS27 ?_
 obtain ⟨v18,V18,F12⟩:=zc F11
 refine zx [] (zaO fu _ _ V18) ?_
 refine zz ?_
 refine zf (zd ?_)
 refine zm F12 ?_ ?_<;>intro C19 F13
 refine zb (zb ?_)
 refine z7 yMix (by kernel_rfl) ?_
 refine s_mv ?_
 refine s_fa zH ?_
 refine zu yA25 ?_
 refine s_mv ?_
 obtain ⟨v20,V20,F14⟩:=zc F13
 refine zN Form.row V20 (Form.row_eq _) yE25 ?_
 refine zas yA27 yS27 ?_
 obtain ⟨v21,V21,F15⟩:=zc F14
 refine zx [] (m_spec_l5Rows_ok fu _ _ _ V21) ?_
 refine zbq ?_
 refine s_mv ?_
 refine zo _ 61 F15 ?_ ?_<;>intro C22 F16
 iterate 9 refine r_no rfl ?_
 refine zz ?_
 refine zar (by kernel_rfl) ?_
 refine zd (zM rfl (zb (za ?_)))
 refine s_as ?_
 refine zf (zd (zh (zg (zg (zj (zg (zy (zj (zg (zn ?_))))))))))
 cases F16
 exact zl [] [] Tryz.results99
 refine s_fa zH ?_
 refine zu yA25 ?_
 refine s_mv ?_
 obtain ⟨v23,V23,F17⟩:=zc F16
 refine zN Form.row V23 (Form.row_eq _) yE25 ?_
 refine zas yA27 yS27 ?_
 refine s_mv ?_
 obtain ⟨v24,V24,F18⟩:=zc F17
 refine zx [] (m_spec_l5Less_ok fu _ _ V24) ?_
 obtain ⟨v25,V25,F19⟩:=zc F18
 refine zx [] (ih_m_spec_l5Is fu (by omega) _ _ _ V25) ?_
 refine zbq ?_
 refine zB ?_
 refine zar (by kernel_rfl) ?_
 refine zd ?_
 refine zm F19 ?_ ?_<;>intro C26 F20
 refine zb (za ?_)
 refine s_as ?_
 refine zf (zd (zh (zg (zg (zj (zg (zy (zj (zg (zn ?_))))))))))
 cases F20
 exact zl [] [] Tryz.results99
 refine zi (zd (zA (zq (zr (zd (za ?_))))))
 refine s_mv ?_
 refine zO (zaJ C7 B8 hn_g5) ?_
 refine s_as ?_
 refine zf ?_
 exact s_rn (fu,(g5+1)) ⟨by first | omega | (dsimp only;omega),F20,by first | omega | (dsimp only;omega)⟩
 refine zi (zd (zb (za ?_)))
 refine s_fa zH ?_
 refine zu yA25 ?_
 refine s_mv ?_
 obtain ⟨v27,V27,F14⟩:=zc F13
 refine zN Form.row V27 (Form.row_eq _) yE25 ?_
 refine zas yA27 yS27 ?_
 refine s_mv ?_
 obtain ⟨v28,V28,F15⟩:=zc F14
 refine zx [] (ih_m_spec_l5Is fu (by omega) _ _ _ V28) ?_
 refine zbq ?_
 refine zf (zd ?_)
 refine zm F15 ?_ ?_<;>intro C29 F16
 refine zb (za ?_)
 refine s_as ?_
 refine zf (zd (zh (zj (zg (zy (zj (zg (zn ?_))))))))
 cases F16
 exact zl [] [] Tryz.results99
 refine zi (zaa (zd (za ?_)))
 refine s_mv ?_
 refine zO (zaJ C7 B8 hn_g5) ?_
 refine s_as ?_
 refine zf ?_
 exact s_rn (fu,(g5+1)) ⟨by first | omega | (dsimp only;omega),F16,by first | omega | (dsimp only;omega)⟩
 iterate 7 refine r_no rfl ?_
 refine zB ?_
 refine zf (zd (zaS rfl (zi (zd (zb (za ?_))))))
 refine s_fa zH ?_
 refine zu yA25 ?_
 refine s_mv ?_
 obtain ⟨v30,V30,F11⟩:=zc F10
 refine zN Form.row V30 (Form.row_eq _) yE25 ?_
 refine zas yA27 yS27 ?_
 refine s_mv ?_
 obtain ⟨v31,V31,F12⟩:=zc F11
 refine zx [] (ih_m_spec_l5Is fu (by omega) _ _ _ V31) ?_
 refine zbq ?_
 refine zf (zd ?_)
 refine zm F12 ?_ ?_<;>intro C32 F13
 refine zb (za ?_)
 refine s_as ?_
 refine zf (zd (zh (zj (zg (zy (zj (zg (zn ?_))))))))
 cases F13
 exact zl [] [] Tryz.results99
 refine zi (zaa (zd (za ?_)))
 refine s_mv ?_
 refine zO (zaJ C7 B8 hn_g5) ?_
 refine s_as ?_
 refine zf ?_
 exact s_rn (fu,(g5+1)) ⟨by first | omega | (dsimp only;omega),F13,by first | omega | (dsimp only;omega)⟩
 refine zA (zq (zp (zr (zd (zb (za ?_))))))
 refine s_as ?_
 refine zf (zd (zh (zn ?_)))
 cases F6
 exact zl [] [] Tryz.results99
theorem m_spec_l5Is_all (fuel:Nat):zgr fuel:=by
 induction fuel using Nat.strongRecOn with
 | _ N ih =>
   cases N with
   | zero=>exact (by intro x1 x2 r h;rw [zdq] at h;cases h)
   | succ fu=>exact m_spec_l5Is_st fu (fun k hk=>(ih k (by omega)))
theorem m_spec_l5Is_ok (fuel:Nat):zgr fuel:=(m_spec_l5Is_all fuel)
def m_spec_l5Rule_AC (fuel:Nat):Prop:=∀ (x1:Rule) (x2:(List Form)) (r:Bool),zc9 fuel x1 x2=some r→AC Tryz.prog 144 [.ag [.t (.sc (.int .i64 x1.pattern.kind)),.t (.sc (.str x1.pattern.name)),.t (.sc (.int .i64 x1.pattern.n)),.t (.sl (x1.pattern.scopes.map rI)),.t (.sl (x1.pattern.kids.map Form.row)),.t (.sc (.int .i64 x1.template.kind)),.t (.sc (.str x1.template.name)),.t (.sc (.int .i64 x1.template.n)),.t (.sl (x1.template.scopes.map rI)),.t (.sl (x1.template.kids.map Form.row))],.t (.sl (x2.map Form.row))] noOb (.t (.sc (.bool r))) noOb
theorem m_spec_l5Rule_ok (fuel:Nat):m_spec_l5Rule_AC fuel:=by
 intro x1 x2 r F0
 unfold zc9 at F0
 refine AC_i [.t (.sc (.bool r))] Tryz.func144 rfl Tryz.ntmps144 ?_
 intro C hC
 refine zb (za ?_)
 refine za9 ?_
 refine s_as ?_
 refine zf (zd (zb ?_))
 refine z7 yMix (by kernel_rfl) ?_
 refine s_fa yF106_0 ?_
 refine zas yA27 yS27 ?_
 refine s_mv ?_
 obtain ⟨v1,V1,F1⟩:=zc F0
 refine zx [] (m_spec_l4Is_ok fuel _ _ _ V1) ?_
 refine s_mv ?_
 refine zo _ 9 F1 ?_ ?_<;>intro C2 F2
 refine s_fa yF106_0 ?_
 refine s_fa zcT ?_
 refine zu yA3 ?_
 refine s_eq ?_
 refine zz ?_
 refine s_mv ?_
 refine zo _ 15 F2 ?_ ?_<;>intro C3 F3
 refine s_fa yF106_0 ?_
 refine s_fa zH ?_
 refine zu yA25 ?_
 refine zF yU25 ?_
 refine s_gt ?_
 refine zz ?_
 refine s_mv ?_
 refine zo _ 22 F3 ?_ ?_<;>intro C4 F4
 refine s_fa yF106_1 ?_
 refine zas yA27 yS27 ?_
 obtain ⟨v5,V5,F5⟩:=zc F4
 refine zx [] (zaQ fuel _ _ V5) ?_
 refine zz ?_
 refine s_mv ?_
 refine zo _ 27 F5 ?_ ?_<;>intro C6 F6
 refine s_fa yF106_1 ?_
 refine zas yA27 yS27 ?_
 refine s_fa yF106_0 ?_
 refine zas yA27 yS27 ?_
 refine s_mv ?_
 obtain ⟨v7,V7,F7⟩:=zc F6
 refine zx [] (m_spec_l5Shape_ok fuel _ _ _ V7) ?_
 obtain ⟨v8,V8,F8⟩:=zc F7
 refine zx [] (m_spec_l5Is_ok fuel _ _ _ V8) ?_
 refine zz ?_
 refine s_as ?_
 refine zar (by kernel_rfl) ?_
 refine zd (zh (zn ?_))
 cases F8
 exact zl [] [] Tryz.results144
 iterate 7 refine r_no rfl ?_
 refine zB ?_
 refine s_as ?_
 refine zar (by kernel_rfl) ?_
 refine zd (zh (zn ?_))
 cases F6
 exact zl [] [] Tryz.results144
 iterate 3 refine r_no rfl ?_
 refine zB ?_
 refine s_mv ?_
 iterate 7 refine r_no rfl ?_
 refine zB ?_
 refine s_as ?_
 refine zar (by kernel_rfl) ?_
 refine zd (zh (zn ?_))
 cases F4
 exact zl [] [] Tryz.results144
 iterate 5 refine r_no rfl ?_
 refine zB ?_
 refine s_mv ?_
 iterate 3 refine r_no rfl ?_
 refine zB ?_
 refine s_mv ?_
 iterate 7 refine r_no rfl ?_
 refine zB ?_
 refine s_as ?_
 refine zar (by kernel_rfl) ?_
 refine zd (zh (zn ?_))
 cases F3
 exact zl [] [] Tryz.results144
 iterate 4 refine r_no rfl ?_
 refine zB ?_
 refine s_mv ?_
 iterate 5 refine r_no rfl ?_
 refine zB ?_
 refine s_mv ?_
 iterate 3 refine r_no rfl ?_
 refine zB ?_
 refine s_mv ?_
 iterate 7 refine r_no rfl ?_
 refine zB ?_
 refine s_as ?_
 refine zar (by kernel_rfl) ?_
 refine zd (zh (zn ?_))
 cases F2
 exact zl [] [] Tryz.results144
end Go.Abs
