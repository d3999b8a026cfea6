/- A part of the proof: what the functions that the law calls answer, as pure values. -/
import Derived.Test.YtpdacpnncmemgaaGreatK836a3054a2c5
import Derived.Test.YtpdacpnncmemgaaGreatK44963eedd702
import Derived.Test.YtpdacpnncmemgaaGreatK2d4b5c3f1704
import Derived.Test.YtpdacpnncmemgaaGreatKa3188cc5fca6
import Derived.Test.YtpdacpnncmemgaaGreatKa647db9ee9e6
import Derived.Test.YtpdacpnncmemgaaGreatK57e2d81719e9
import Derived.Test.YtpdacpnncmemgaaGreatKfaf2dbb53499
import Derived.Test.YtpdacpnncmemgaaGreatK7e1514327120
set_option linter.unusedSimpArgs false
set_option linter.unusedVariables false
set_option maxRecDepth 100000
set_option maxHeartbeats 4000000
namespace Go.Abs
open Go.Proofs
theorem m_spec_l1Dress_all (fuel:Nat):zfn fuel:=by
 induction fuel using Nat.strongRecOn with
 | _ N ih =>
   cases N with
   | zero=>exact (by intro o1 x2 r h;rw [zbU] at h;cases h)
   | succ fu=>exact m_spec_l1Dress_st fu (fun k hk=>(ih k (by omega)))
theorem m_spec_l1Dress_ok (fuel:Nat):zfn fuel:=(m_spec_l1Dress_all fuel)
def m_spec_l5Case_AC (fuel:Nat):Prop:=∀ (x1:(List Int)) (r:((List Form) × (List Rule) × Form)),zfj fuel x1=some r→AC Tryz.prog 23 [.t (.sl (x1.map rB))] (objs []) (.tp [.t (.sl (r.1.map Form.row)),.ar 9300,.ag [.t (.sc (.int .i64 r.2.2.kind)),.t (.sc (.str r.2.2.name)),.t (.sc (.int .i64 r.2.2.n)),.t (.sl (r.2.2.scopes.map rI)),.t (.sl (r.2.2.kids.map Form.row))]]) (objs [(9300,.arr (r.2.1.map Rule.row) 37 false)])
theorem m_spec_l5Case_ok (fuel:Nat):m_spec_l5Case_AC fuel:=by
 intro x1 r F0
 unfold zfj at F0
 refine AC_i [.t (.sl (r.1.map Form.row)),.ar 9300,.ag [.t (.sc (.int .i64 r.2.2.kind)),.t (.sc (.str r.2.2.name)),.t (.sc (.int .i64 r.2.2.n)),.t (.sl (r.2.2.scopes.map rI)),.t (.sl (r.2.2.kids.map Form.row))]] Tryz.func23 rfl Tryz.ntmps23 ?_
 intro C hC
 refine zb (za ?_)
 refine s_as ?_
 refine s_as ?_
 refine z4 yZ32 ?_
 refine zf (zd (zb (za ?_)))
 refine s_mv ?_
 obtain ⟨v1,V1,F1⟩:=zc F0
 refine zL [(10,14)] [] _ _ (zhG fuel _ _ V1) ?_
 refine s_as ?_
 refine zf (zd (zb (za ?_)))
 obtain ⟨v2,V2,F2⟩:=zc F1
 refine zx [] (m_spec_l5Texts_ok fuel _ V2) ?_
 refine s_as ?_
 refine zf (zd (zb (za ?_)))
 refine s_mv ?_
 refine s_mv ?_
 refine zF yU86 ?_
 obtain ⟨v3,V3,F3⟩:=zc F2
 refine zL [(9000,14)] [] _ _ (zah fuel _ _ _ V3) ?_
 refine s_as ?_
 refine zf (zd (zb (za ?_)))
 refine s_mv ?_
 refine s_mv ?_
 obtain ⟨v4,V4,F4⟩:=zc F3
 refine zR (rL rS) V4 rfl yE86 ?_
 refine zu yA89 ?_
 obtain ⟨v5,V5,F5⟩:=zc F4
 refine zR rS V5 rfl yE89 ?_
 refine zu yA9 ?_
 obtain ⟨v6,V6,F6⟩:=zc F5
 refine zx [] (zfm fuel _ _ V6) ?_
 refine z4 yZ32 ?_
 refine zal yS32 ?_
 refine zf (zd ?_)
 refine zca (α:=Nat × (List Int) × Int × Int × ByteArray × Int × (List Int) × (List Form)) [27,28,29,30,31,32,33,34] [8,14] [] (fun a=>[]) (fun a=>[(8,.box [.t (.sc (.int .i64 a.2.2.2.1)),.t (.sc (.str a.2.2.2.2.1)),.t (.sc (.int .i64 a.2.2.2.2.2.1)),.t (.sl (a.2.2.2.2.2.2.1.map rI)),.t (.sl (a.2.2.2.2.2.2.2.map Form.row))]),(14,.box [.t (.sl (a.2.1.map rB)),.t (.sc (.int .i64 a.2.2.1))])]) (fun a=>a.1≤fuel∧zcl a.1 v2 v3 a.2.1 a.2.2.1 a.2.2.2.1 a.2.2.2.2.1 a.2.2.2.2.2.1 a.2.2.2.2.2.2.1 a.2.2.2.2.2.2.2=some r) ?_ ?_
 refine zb (za ?_)
 refine s_mv ?_
 obtain ⟨v7,V7,F7⟩:=zc F6
 refine zL [(9000,14)] [] _ _ (zah fuel _ _ _ V7) ?_
 refine s_eq ?_
 refine zf (zd ?_)
 refine zn F7 ?_ ?_<;>intro C8 F8
 refine za ?_
 refine s_mv ?_
 refine s_mv ?_
 refine zI yA32 yS32 ?_
 obtain ⟨v9,V9,F9⟩:=zc F8
 refine zL [(9000,14)] [] _ _ (zeS fuel _ _ _ V9) ?_
 obtain ⟨v10,V10,F10⟩:=zc F9
 refine zL [(9000,14)] [] _ _ (zeS fuel _ _ _ V10) ?_
 refine zal yS32 ?_
 refine zf ?_
 exact s_jn (fuel,v10.2.b,v10.2.p,v10.1.kind,v10.1.name,v10.1.n,v10.1.scopes,v10.1.kids) ⟨by first | omega | (dsimp only;omega),F10⟩
 refine zi ?_
 exact s_jn (fuel,v7.2.b,v7.2.p,v6.kind,v6.name,v6.n,v6.scopes,v6.kids) ⟨by first | omega | (dsimp only;omega),F8⟩
 clear F6
 rintro ⟨fu,g11,g12,g13,g14,g15,g16,g17⟩ ⟨hl18,F7⟩
 dsimp only at hl18 F7 ⊢
 obtain _ | fu:=fu
 · rw [zcl] at F7;cases F7
 rw [zcl] at F7
 refine zb (za ?_)
 refine zI yA32 yS32 ?_
 obtain ⟨v19,V19,F8⟩:=zc F7
 refine zL [(9300,2037)] [] _ _ (zgX fu _ _ V19) ?_
 refine s_mv ?_
 iterate 3 refine zcp ?_
 iterate 3 refine s_as ?_
 refine zf (zd ?_)
 refine awp_seqJ (α:=Nat × (List Form) × (List Rule)) [9,10,41,42,43,44,45,46,47,48,49,50,51,52,53] [2037,6010] [2050,7010] [6010] (fun a=>[(9,.t (.sl (a.2.1.map Form.row))),(10,.ar 6010)]) (fun a=>[(2037,.dead),(6010,.arr (a.2.2.map Rule.row) 37 false)]) (fun a=>a.1≤fu∧zcS a.1 v2 v3 g11 g12 a.2.1 a.2.2=some r) (by rfl) (fun _=>rfl) (zcq hC rfl) (by repeat (first | exact zai rfl | refine zax rfl ?_ | refine z8 rfl ?_)) (by repeat (first | exact zaU | exact zan rfl | refine zay rfl ?_ | refine z9 rfl ?_)) ?_ ?_
 refine zb (za ?_)
 refine s_mv ?_
 refine za3 ?_
 refine zf (zd ?_)
 refine zn F8 ?_ ?_<;>intro C20 F9
 refine awp_kill 2037 rfl ?_
 refine za ?_
 refine s_mv ?_
 obtain ⟨v21,V21,F10⟩:=zc F9
 refine zR (rL rS) V21 rfl yE86 ?_
 refine zu yA89 ?_
 obtain ⟨v22,V22,F11⟩:=zc F10
 refine zR rS V22 rfl yE89 ?_
 refine zu yA9 ?_
 obtain ⟨v23,V23,F12⟩:=zc F11
 refine zx [] (zfm fu _ _ V23) ?_
 obtain ⟨v24,V24,F13⟩:=zc F12
 refine zL [(9300,2050)] [] _ _ (zgX fu _ _ V24) ?_
 refine s_mv ?_
 iterate 3 refine zcp ?_
 refine s_as ?_
 refine s_as ?_
 refine zf ?_
 exact s_join (fu,v24.1,v24.2.1) [(6010,2050)] ⟨by first | omega | (dsimp only;omega),F13⟩ (by repeat (first | exact trivial | refine hasR_cons (by conv=>lhs;whnf) (by rfl) rfl ?_)) (by repeat (first | exact trivial | refine hasQ_cons (by conv=>lhs;whnf) (by rfl) rfl ?_))
 refine zdf 10 2037 7010 (by conv=>lhs;whnf) (by conv=>lhs;whnf) rfl ?_
 refine zi ?_
 exact s_join (fu,v19.1,v19.2.1) [(6010,7010)] ⟨by first | omega | (dsimp only;omega),F9⟩ (by repeat (first | exact trivial | refine hasR_cons (by conv=>lhs;whnf) (by rfl) rfl ?_)) (by repeat (first | exact trivial | refine hasQ_cons (by conv=>lhs;whnf) (by rfl) rfl ?_))
 clear F8
 rintro ⟨fu,g25,g26⟩ ⟨hl27,F9⟩
 dsimp only at hl27 F9 ⊢
 obtain _ | fu:=fu
 · rw [zcS] at F9;cases F9
 rw [zcS] at F9
 refine zb (za ?_)
 refine s_mv ?_
 refine s_mv ?_
 obtain ⟨v28,V28,F10⟩:=zc F9
 refine zR (rL rS) V28 rfl yE86 ?_
 refine zu yA89 ?_
 obtain ⟨v29,V29,F11⟩:=zc F10
 refine zR rS V29 rfl yE89 ?_
 refine zu yA9 ?_
 obtain ⟨v30,V30,F12⟩:=zc F11
 refine zx [] (zfm fu _ _ V30) ?_
 refine z4 yZ32 ?_
 refine zal yS32 ?_
 refine zf (zd (zb (zb (za ?_))))
 refine s_mv ?_
 obtain ⟨v31,V31,F13⟩:=zc F12
 refine zL [(9000,14)] [] _ _ (zah fu _ _ _ V31) ?_
 refine zf (zd (zl (zb (za ?_))))
 refine s_eq ?_
 refine s_as ?_
 refine zf (zd ?_)
 refine zn F13 ?_ ?_<;>intro C32 F14
 refine za ?_
 iterate 3 refine s_mv ?_
 refine zF yU86 ?_
 obtain ⟨v33,V33,F15⟩:=zc F14
 refine zL [(9000,14)] [] _ _ (zah fu _ _ _ V33) ?_
 obtain ⟨v34,V34,F16⟩:=zc F15
 refine zR (rL rS) V34 rfl yE86 ?_
 refine zu yA89 ?_
 obtain ⟨v35,V35,F17⟩:=zc F16
 refine zR rS V35 rfl yE89 ?_
 refine zu yA9 ?_
 obtain ⟨v36,V36,F18⟩:=zc F17
 refine zx [] (zfm fu _ _ V36) ?_
 refine zal yS32 ?_
 refine zf (zU (zd (zb ?_)))
 refine zZ yMix (by kernel_rfl) ?_
 refine s_mv ?_
 refine s_mv ?_
 refine zI yA32 yS32 ?_
 refine s_as ?_
 refine s_as ?_
 refine zal yS32 ?_
 refine zam (by kernel_rfl) ?_
 refine zd ?_
 refine zdf 3 6010 9300 (by conv=>lhs;whnf) (by conv=>lhs;whnf) rfl ?_
 refine zh (zm ?_)
 cases F18
 exact zag _ [] (by rw [Tryz.results23];exact (zau (by conv=>lhs;whnf) (zau (by conv=>lhs;whnf) (zaE (by conv=>lhs;whnf) (by conv=>lhs;whnf) yA32 yS32 rfl zar))))
 refine zb (za ?_)
 refine s_eq ?_
 refine s_as ?_
 refine zf (zd ?_)
 refine zn F14 ?_ ?_<;>intro C37 F15
 refine za ?_
 refine s_mv ?_
 refine s_mv ?_
 refine zI yA32 yS32 ?_
 obtain ⟨v38,V38,F16⟩:=zc F15
 refine zL [(9000,14)] [] _ _ (zeS fu _ _ _ V38) ?_
 obtain ⟨v39,V39,F17⟩:=zc F16
 refine zL [(9000,14)] [] _ _ (zeS fu _ _ _ V39) ?_
 refine zal yS32 ?_
 refine zf (zU (zd (zb ?_)))
 refine zZ yMix (by kernel_rfl) ?_
 refine s_mv ?_
 refine s_mv ?_
 refine zI yA32 yS32 ?_
 refine s_as ?_
 refine s_as ?_
 refine zal yS32 ?_
 refine zam (by kernel_rfl) ?_
 refine zd ?_
 refine zdf 3 6010 9300 (by conv=>lhs;whnf) (by conv=>lhs;whnf) rfl ?_
 refine zh (zm ?_)
 cases F17
 exact zag _ [] (by rw [Tryz.results23];exact (zau (by conv=>lhs;whnf) (zau (by conv=>lhs;whnf) (zaE (by conv=>lhs;whnf) (by conv=>lhs;whnf) yA32 yS32 rfl zar))))
 refine zb (za ?_)
 refine s_eq ?_
 refine s_as ?_
 refine zf (zd ?_)
 refine zn F15 ?_ ?_<;>intro C40 F16
 refine za ?_
 refine s_mv ?_
 refine zI yA32 yS32 ?_
 obtain ⟨v41,V41,F17⟩:=zc F16
 refine zL [(9000,14)] [] _ _ (m_spec_l1Dress_ok fu _ _ _ V41) ?_
 refine zal yS32 ?_
 refine zf (zU (zd (zb ?_)))
 refine zZ yMix (by kernel_rfl) ?_
 refine s_mv ?_
 refine s_mv ?_
 refine zI yA32 yS32 ?_
 refine s_as ?_
 refine s_as ?_
 refine zal yS32 ?_
 refine zam (by kernel_rfl) ?_
 refine zd ?_
 refine zdf 3 6010 9300 (by conv=>lhs;whnf) (by conv=>lhs;whnf) rfl ?_
 refine zh (zm ?_)
 cases F17
 exact zag _ [] (by rw [Tryz.results23];exact (zau (by conv=>lhs;whnf) (zau (by conv=>lhs;whnf) (zaE (by conv=>lhs;whnf) (by conv=>lhs;whnf) yA32 yS32 rfl zar))))
 refine zi (zU (zd (zb ?_)))
 refine zZ yMix (by kernel_rfl) ?_
 refine s_mv ?_
 refine s_mv ?_
 refine zI yA32 yS32 ?_
 refine s_as ?_
 refine s_as ?_
 refine zal yS32 ?_
 refine zam (by kernel_rfl) ?_
 refine zd ?_
 refine zdf 3 6010 9300 (by conv=>lhs;whnf) (by conv=>lhs;whnf) rfl ?_
 refine zh (zm ?_)
 cases F16
 exact zag _ [] (by rw [Tryz.results23];exact (zau (by conv=>lhs;whnf) (zau (by conv=>lhs;whnf) (zaE (by conv=>lhs;whnf) (by conv=>lhs;whnf) yA32 yS32 rfl zar))))
def zh4 (fuel:Nat):Prop:=∀ (x1:(List Int)) (r:((List Rule) × (List Form))),zcZ fuel x1=some r→AC Tryz.prog 6 [.t (.sl (x1.map rB))] noOb (.tp [.t (.sl (r.1.map Rule.row)),.t (.sl (r.2.map Form.row))]) noOb
theorem zh3 (fuel:Nat):zh4 fuel:=by
 intro x1 r F0
 unfold zcZ at F0
 refine AC_i [.t (.sl (r.1.map Rule.row)),.t (.sl (r.2.map Form.row))] Tryz.func6 rfl Tryz.ntmps6 ?_
 intro C hC
 refine zb (za ?_)
 refine s_as ?_
 refine s_as ?_
 refine zf (zd (zb (za ?_)))
 refine s_mv ?_
 obtain ⟨v1,V1,F1⟩:=zc F0
 refine zL [(9300,2010)] [] _ _ (m_spec_l5Case_ok fuel _ _ V1) ?_
 refine s_mv ?_
 iterate 3 refine zcp ?_
 refine z4 yZ32 ?_
 refine s_as ?_
 refine s_as ?_
 refine zal yS32 ?_
 refine zf (zd (zb (za ?_)))
 refine s_mv ?_
 obtain ⟨v2,V2,F2⟩:=zc F1
 refine zL [(10,15)] [] _ _ (zhG fuel _ _ V2) ?_
 refine s_as ?_
 refine zf (zd (zb (zb (za ?_))))
 refine s_mv ?_
 obtain ⟨v3,V3,F3⟩:=zc F2
 refine zL [(9000,15)] [] _ _ (zah fuel _ _ _ V3) ?_
 refine s_eq ?_
 refine zf (zd ?_)
 refine zn F3 ?_ ?_<;>intro C4 F4
 refine za ?_
 iterate 4 refine s_mv ?_
 refine zgv yU23 ?_
 obtain ⟨v5,V5,F5⟩:=zc F4
 refine zL [(9000,15)] [] _ _ (zah fuel _ _ _ V5) ?_
 obtain ⟨v6,V6,F6⟩:=zc F5
 refine zhC Rule.row V6 yE23 ?_
 refine s_lAN Rule.row V6 (Rule.row_eq _) yA37 yS37 ?_
 refine s_bs Rule.row [v6] yP23 yR37 ?_
 obtain ⟨hk7,F7⟩:=zat F6
 refine s_apF Rule.row (fun y=>Rule.row_len y) hk7 yP23 ?_
 refine s_as ?_
 refine zf (zd (zb (za ?_)))
 refine s_mv ?_
 refine s_mv ?_
 refine s_as ?_
 refine s_as ?_
 refine zf (zd (zh (zm ?_)))
 cases F7
 exact zk [] [28] Tryz.results6
 refine zi (zd (zb (za ?_)))
 refine s_mv ?_
 refine s_mv ?_
 refine s_as ?_
 refine s_as ?_
 refine zf (zd (zh (zm ?_)))
 cases F4
 exact zk [] [2010] Tryz.results6
def m_strings_IndexByte_AC (fuel:Nat):Prop:=∀ (x1:ByteArray) (x2:Int) (r:Int),zd2 fuel x1 x2=some r→AC Tryz.prog 149 [.t (.sc (.str x1)),.t (.sc (.int .u8 x2))] noOb (.t (.sc (.int .i64 r))) noOb
theorem zgw (fuel:Nat):m_strings_IndexByte_AC fuel:=by
 intro x1 x2 r h
 obtain rfl:=Option.some.inj h
 exact ac_two (a:=.str x1) (b:=.int .u8 x2) (r:=.int .i64 _) ⟨_,Tryz.func149,by kernel_rfl,by kernel_rfl⟩ (fun w=>Tryz.strings_IndexByte x1 x2 w)
def m_impl_within_AC (fuel:Nat):Prop:=∀ (x1:Int) (x2:Int) (x3:Int) (r:Bool),zc3 fuel x1 x2 x3=some r→AC Tryz.prog 102 [.t (.sc (.int .i64 x1)),.t (.sc (.int .i64 x2)),.t (.sc (.int .i64 x3))] noOb (.t (.sc (.bool r))) noOb
theorem zex (fuel:Nat):m_impl_within_AC fuel:=by
 intro x1 x2 x3 r F0
 unfold zc3 at F0
 refine AC_i [.t (.sc (.bool r))] Tryz.func102 rfl Tryz.ntmps102 ?_
 intro C hC
 refine zb (za ?_)
 refine s_as ?_
 refine zf (zd (zb (za ?_)))
 refine s_mv ?_
 refine s_mv ?_
 refine s_ge ?_
 refine s_mv ?_
 refine zo _ 10 F0 ?_ ?_<;>intro C1 F1
 refine s_mv ?_
 refine s_mv ?_
 refine s_le ?_
 refine zz ?_
 refine s_as ?_
 refine zf (zd (zh (zm ?_)))
 cases F1
 exact zk [] [] Tryz.results102
 iterate 3 refine r_no rfl ?_
 refine zy ?_
 refine s_as ?_
 refine zf (zd (zh (zm ?_)))
 cases F1
 exact zk [] [] Tryz.results102
def m_impl_NameValid_AC (fuel:Nat):Prop:=∀ (x1:ByteArray) (r:Bool),zdx fuel x1=some r→AC Tryz.prog 108 [.t (.sc (.str x1))] noOb (.t (.sc (.bool r))) noOb
theorem zhi (fuel:Nat):m_impl_NameValid_AC fuel:=by
 intro x1 r F0
 unfold zdx at F0
 refine AC_i [.t (.sc (.bool r))] Tryz.func108 rfl Tryz.ntmps108 ?_
 intro C hC
 refine zb (za ?_)
 refine s_as ?_
 refine zf (zd (zb (zb (za ?_))))
 refine s_mv ?_
 refine zhn ?_
 refine s_mv ?_
 refine zo _ 7 F0 ?_ ?_<;>intro C1 F1
 refine r_no rfl (r_no rfl ?_)
 refine zz ?_
 refine zf (zd (zK rfl (zb (za ?_))))
 refine s_as ?_
 refine zf (zd (zh (zg (zm ?_))))
 cases F1
 exact zk [] [] Tryz.results108
 refine s_mv ?_
 refine zhn ?_
 refine zy ?_
 refine zf (zd ?_)
 refine zn F1 ?_ ?_<;>intro C2 F2
 refine zb (za ?_)
 refine s_as ?_
 refine zf (zd (zh (zg (zm ?_))))
 cases F2
 exact zk [] [] Tryz.results108
 refine zi (zd (zb (zb (za ?_))))
 refine s_as ?_
 refine zf (zd (zl ?_))
 refine zaX (β:=Int) [2,3,4,11,12,13,14,15,16,17,18,19,20,21,22,23,24,25,26,27,28,29,30,31,32,33,34,35,36,37,38,39,40,41,42,43,44,45,46] [] [] (fun a=>[(3,.t (.sc (.int .i64 a.2)))]) (fun a=>[]) (fun a=>a.1≤fuel∧zY a.1 x1 a.2=some r) (fuel,0) ⟨Nat.le_refl _,F2⟩ ?_
 clear F2
 rintro ⟨fu,g3⟩ ⟨hl4,F3⟩
 dsimp only at hl4 F3 ⊢
 obtain _ | fu:=fu
 · rw [zY] at F3;cases F3
 rw [zY] at F3
 refine zb (zb (za ?_))
 refine s_mv ?_
 refine s_mv ?_
 refine ze3 yU9 ?_
 refine s_lt ?_
 refine zf (zd ?_)
 refine zn F3 ?_ ?_<;>intro C5 F4
 refine zi (zd (zb (zl (zb (za ?_)))))
 refine s_mv ?_
 refine s_mv ?_
 obtain ⟨v6,V6,F5⟩:=zc F4
 refine s_ixS V6 yU9 ?_
 refine s_as ?_
 refine zf (zd (zl (zb (za ?_))))
 refine s_mv ?_
 refine s_ge ?_
 refine s_mv ?_
 refine zo _ 23 F5 ?_ ?_<;>intro C7 F6
 refine s_mv ?_
 refine s_le ?_
 refine zz ?_
 refine s_mv ?_
 refine zo _ 27 F6 ?_ ?_<;>intro C8 F7
 iterate 3 refine r_no rfl ?_
 refine zz ?_
 refine s_as ?_
 refine zf (zd (zK rfl (zi (zU (zU (zd (za ?_)))))))
 refine s_mv ?_
 refine zH rfl ?_
 refine s_as ?_
 refine zf ?_
 exact s_rn (fu,(w64 (g3+1))) ⟨by first | omega | (dsimp only;omega),F7⟩
 refine s_mv ?_
 obtain ⟨v9,V9,F8⟩:=zc F7
 refine zx [] (zgw fu _ _ _ V9) ?_
 refine s_ge ?_
 refine zy ?_
 refine s_as ?_
 refine zf (zd ?_)
 refine zn F8 ?_ ?_<;>intro C10 F9
 refine zi (zU (zU (zd (za ?_))))
 refine s_mv ?_
 refine zH rfl ?_
 refine s_as ?_
 refine zf ?_
 exact s_rn (fu,(w64 (g3+1))) ⟨by first | omega | (dsimp only;omega),F9⟩
 refine zb (za ?_)
 refine s_mv ?_
 refine s_gt ?_
 refine s_mv ?_
 refine zo _ 35 F9 ?_ ?_<;>intro C11 F10
 refine s_mv ?_
 refine s_ge ?_
 refine s_mv ?_
 refine zo _ 38 F10 ?_ ?_<;>intro C12 F11
 refine s_mv ?_
 refine s_le ?_
 refine zz ?_
 refine s_mv ?_
 refine zo _ 42 F11 ?_ ?_<;>intro C13 F12
 refine r_no rfl (r_no rfl ?_)
 refine zz ?_
 refine zz ?_
 refine s_as ?_
 refine zf (zd (zK rfl (zi (zU (zU (zd (za ?_)))))))
 refine s_mv ?_
 refine zH rfl ?_
 refine s_as ?_
 refine zf ?_
 exact s_rn (fu,(w64 (g3+1))) ⟨by first | omega | (dsimp only;omega),F12⟩
 refine s_mv ?_
 refine s_eq ?_
 refine zy ?_
 refine zz ?_
 refine s_as ?_
 refine zf (zd ?_)
 refine zn F12 ?_ ?_<;>intro C14 F13
 refine zi (zU (zU (zd (za ?_))))
 refine s_mv ?_
 refine zH rfl ?_
 refine s_as ?_
 refine zf ?_
 exact s_rn (fu,(w64 (g3+1))) ⟨by first | omega | (dsimp only;omega),F13⟩
 refine zb (za ?_)
 refine s_as ?_
 refine zf (zd (zh (zj (zj (zg (zw (zj (zg (zm ?_)))))))))
 cases F13
 exact zk [] [] Tryz.results108
 refine r_no rfl (r_no rfl ?_)
 refine zy ?_
 refine s_mv ?_
 refine s_mv ?_
 refine s_eq ?_
 refine zy ?_
 refine zz ?_
 refine s_as ?_
 refine zf (zd ?_)
 refine zn F11 ?_ ?_<;>intro C15 F12
 refine zi (zU (zU (zd (za ?_))))
 refine s_mv ?_
 refine zH rfl ?_
 refine s_as ?_
 refine zf ?_
 exact s_rn (fu,(w64 (g3+1))) ⟨by first | omega | (dsimp only;omega),F12⟩
 refine zb (za ?_)
 refine s_as ?_
 refine zf (zd (zh (zj (zj (zg (zw (zj (zg (zm ?_)))))))))
 cases F12
 exact zk [] [] Tryz.results108
 iterate 10 refine r_no rfl ?_
 refine zy ?_
 refine s_as ?_
 refine zf (zd (zaP rfl (zb (za ?_))))
 refine s_as ?_
 refine zf (zd (zh (zj (zj (zg (zw (zj (zg (zm ?_)))))))))
 cases F10
 exact zk [] [] Tryz.results108
 refine r_no rfl (r_no rfl ?_)
 refine zy ?_
 refine s_mv ?_
 refine s_mv ?_
 obtain ⟨v16,V16,F7⟩:=zc F6
 refine zx [] (zgw fu _ _ _ V16) ?_
 refine s_ge ?_
 refine zy ?_
 refine s_as ?_
 refine zf (zd ?_)
 refine zn F7 ?_ ?_<;>intro C17 F8
 refine zi (zU (zU (zd (za ?_))))
 refine s_mv ?_
 refine zH rfl ?_
 refine s_as ?_
 refine zf ?_
 exact s_rn (fu,(w64 (g3+1))) ⟨by first | omega | (dsimp only;omega),F8⟩
 refine zb (za ?_)
 refine s_mv ?_
 refine s_gt ?_
 refine s_mv ?_
 refine zo _ 35 F8 ?_ ?_<;>intro C18 F9
 refine s_mv ?_
 refine s_ge ?_
 refine s_mv ?_
 refine zo _ 38 F9 ?_ ?_<;>intro C19 F10
 refine s_mv ?_
 refine s_le ?_
 refine zz ?_
 refine s_mv ?_
 refine zo _ 42 F10 ?_ ?_<;>intro C20 F11
 refine r_no rfl (r_no rfl ?_)
 refine zz ?_
 refine zz ?_
 refine s_as ?_
 refine zf (zd (zK rfl (zi (zU (zU (zd (za ?_)))))))
 refine s_mv ?_
 refine zH rfl ?_
 refine s_as ?_
 refine zf ?_
 exact s_rn (fu,(w64 (g3+1))) ⟨by first | omega | (dsimp only;omega),F11⟩
 refine s_mv ?_
 refine s_eq ?_
 refine zy ?_
 refine zz ?_
 refine s_as ?_
 refine zf (zd ?_)
 refine zn F11 ?_ ?_<;>intro C21 F12
 refine zi (zU (zU (zd (za ?_))))
 refine s_mv ?_
 refine zH rfl ?_
 refine s_as ?_
 refine zf ?_
 exact s_rn (fu,(w64 (g3+1))) ⟨by first | omega | (dsimp only;omega),F12⟩
 refine zb (za ?_)
 refine s_as ?_
 refine zf (zd (zh (zj (zj (zg (zw (zj (zg (zm ?_)))))))))
 cases F12
 exact zk [] [] Tryz.results108
 refine r_no rfl (r_no rfl ?_)
 refine zy ?_
 refine s_mv ?_
 refine s_mv ?_
 refine s_eq ?_
 refine zy ?_
 refine zz ?_
 refine s_as ?_
 refine zf (zd ?_)
 refine zn F10 ?_ ?_<;>intro C22 F11
 refine zi (zU (zU (zd (za ?_))))
 refine s_mv ?_
 refine zH rfl ?_
 refine s_as ?_
 refine zf ?_
 exact s_rn (fu,(w64 (g3+1))) ⟨by first | omega | (dsimp only;omega),F11⟩
 refine zb (za ?_)
 refine s_as ?_
 refine zf (zd (zh (zj (zj (zg (zw (zj (zg (zm ?_)))))))))
 cases F11
 exact zk [] [] Tryz.results108
 iterate 10 refine r_no rfl ?_
 refine zy ?_
 refine s_as ?_
 refine zf (zd (zaP rfl (zb (za ?_))))
 refine s_as ?_
 refine zf (zd (zh (zj (zj (zg (zw (zj (zg (zm ?_)))))))))
 cases F9
 exact zk [] [] Tryz.results108
 refine zA (zq (zp (zr (zd (zb (za ?_))))))
 refine s_mv ?_
 refine ze3 yU9 ?_
 obtain ⟨v23,V23,F5⟩:=zc F4
 refine zx [] (zex fu _ _ _ _ V23) ?_
 refine s_as ?_
 refine zf (zd (zh (zm ?_)))
 cases F5
 exact zk [] [] Tryz.results108
def m_impl_scopesOk_AC (fuel:Nat):Prop:=∀ (x1:(List Int)) (r:Bool),zdV fuel x1=some r→AC Tryz.prog 109 [.t (.sl (x1.map rI))] noOb (.t (.sc (.bool r))) noOb
theorem zhw (fuel:Nat):m_impl_scopesOk_AC fuel:=by
 intro x1 r F0
 unfold zdV at F0
 refine AC_i [.t (.sc (.bool r))] Tryz.func109 rfl Tryz.ntmps109 ?_
 intro C hC
 refine zb (za ?_)
 refine s_as ?_
 refine zf (zd (zb (zb (za ?_))))
 refine s_mv ?_
 refine zF yU27 ?_
 refine s_mv ?_
 refine zf (zd (zl ?_))
 refine zaX (β:=Int) [2,3,4,7,8,9,10,11,12,13,14,15,16,17,18,19,20,21,22,23,24,25,26,27,28] [] [] (fun a=>[(7,.t (.sc (.int .i64 a.2)))]) (fun a=>[]) (fun a=>a.1≤fuel∧zby a.1 x1 a.2=some r∧0≤a.2) (fuel,0) ⟨Nat.le_refl _,F0,by simp⟩ ?_
 clear F0
 rintro ⟨fu,g1⟩ ⟨hl2,F1,hn_g1⟩
 dsimp only at hl2 F1 hn_g1 ⊢
 obtain _ | fu:=fu
 · rw [zby] at F1;cases F1
 rw [zby] at F1
 refine zb (za ?_)
 refine s_lt ?_
 refine zf (zd (zb ?_))
 refine zn F1 ?_ ?_<;>intro C3 F2
 refine zN 0 (fun B4=>?_)
 refine zi (zd (zb (zl (zb (za ?_)))))
 refine s_mv ?_
 obtain ⟨v5,V5,F3⟩:=zc F2
 refine zR rI V5 rfl yE27 ?_
 refine zu yA3 ?_
 refine s_as ?_
 refine s_as ?_
 refine zf (zd (zb (za ?_)))
 refine s_mv ?_
 obtain ⟨v6,V6,F4⟩:=zc F3
 refine zx [] (zex fu _ _ _ _ V6) ?_
 refine za3 ?_
 refine s_mv ?_
 refine zo _ 15 F4 ?_ ?_<;>intro C7 F5
 iterate 11 refine r_no rfl ?_
 refine zz ?_
 refine zf (zd (zK rfl (zb (za ?_))))
 refine s_as ?_
 refine zf (zd (zh (zj (zg (zw (zj (zg (zm ?_))))))))
 cases F5
 exact zk [] [] Tryz.results109
 refine s_mv ?_
 refine s_gt ?_
 refine s_mv ?_
 refine zo _ 18 F5 ?_ ?_<;>intro C8 F6
 refine s_mv ?_
 refine s_mv ?_
 refine s_sub rfl ?_
 obtain ⟨v9,V9,F7⟩:=zc F6
 refine zR rI V9 rfl yE27 ?_
 refine zu yA3 ?_
 refine s_mv ?_
 refine s_ge ?_
 refine zz ?_
 refine zy ?_
 refine zf (zd ?_)
 refine zn F7 ?_ ?_<;>intro C10 F8
 refine zb (za ?_)
 refine s_as ?_
 refine zf (zd (zh (zj (zg (zw (zj (zg (zm ?_))))))))
 cases F8
 exact zk [] [] Tryz.results109
 refine zi (zU (zd (za ?_)))
 refine zH (zaq C3 B4 hn_g1) ?_
 refine s_mv ?_
 refine zf ?_
 exact s_rn (fu,(g1+1)) ⟨by first | omega | (dsimp only;omega),F8,by first | omega | (dsimp only;omega)⟩
 iterate 7 refine r_no rfl ?_
 refine zy ?_
 refine zy ?_
 refine zf (zd (zaP rfl (zi (zU (zd (za ?_))))))
 refine zH (zaq C3 B4 hn_g1) ?_
 refine s_mv ?_
 refine zf ?_
 exact s_rn (fu,(g1+1)) ⟨by first | omega | (dsimp only;omega),F6,by first | omega | (dsimp only;omega)⟩
 refine zA (zq (zp (zr (zd (zb (za ?_))))))
 refine s_mv ?_
 refine zF yU27 ?_
 refine s_le ?_
 refine s_as ?_
 refine zf (zd (zh (zm ?_)))
 cases F2
 exact zk [] [] Tryz.results109
def zfW (fuel:Nat):Prop:=∀ (x1:Form) (x2:Int) (o1:Int) (r:(Bool × Int)),zd8 fuel x1 x2 o1=some r→AC Tryz.prog 113 [.ag [.t (.sc (.int .i64 x1.kind)),.t (.sc (.str x1.name)),.t (.sc (.int .i64 x1.n)),.t (.sl (x1.scopes.map rI)),.t (.sl (x1.kids.map Form.row))],.t (.sc (.int .i64 x2)),.rf 9000 0] (objs [(9000,.box [.t (.sc (.int .i64 o1))])]) (.t (.sc (.bool r.1))) (objs [(9000,.box [.t (.sc (.int .i64 r.2))])])
theorem m_impl_formOk_st (fu:Nat) (ih_m_impl_formOk:∀ k,k≤fu→zfW k):zfW (fu+1):=by
 intro x1 x2 o1 r F0
 rw [zd8] at F0
 refine AC_i [.t (.sc (.bool r.1))] Tryz.func113 rfl Tryz.ntmps113 ?_
 intro C hC
 refine zb (za ?_)
 refine za7 ?_
 refine s_as ?_
 refine zf (zd (zb (za ?_)))
 refine s_mv ?_
 refine s_nc ?_
 refine zu yA3 ?_
 refine s_sub rfl ?_
 refine s_nc ?_
 refine zal yS3 ?_
 refine zf (zd (zb (zb (za ?_))))
 refine s_mv ?_
 refine s_nc ?_
 refine zu yA3 ?_
 refine s_lt ?_
 refine s_mv ?_
 refine zo _ 18 F0 ?_ ?_<;>intro C1 F1
 refine r_no rfl (r_no rfl ?_)
 refine zz ?_
 refine zf (zd (zK rfl (zb (za ?_))))
 refine s_as ?_
 refine zf (zd (zh (zg (zm ?_))))
 cases F1
 exact zk _ [] Tryz.results113
 refine s_mv ?_
 refine s_gt ?_
 refine zy ?_
 refine zf (zd ?_)
 refine zn F1 ?_ ?_<;>intro C2 F2
 refine zb (za ?_)
 refine s_as ?_
 refine zf (zd (zh (zg (zm ?_))))
 cases F2
 exact zk _ [] Tryz.results113
 refine zi (zd (zb (zb (za ?_))))
 refine s_fa zcN ?_
 refine zu yA3 ?_
 refine zf (zd (zl (zb (za ?_))))
 refine s_eq ?_
 refine s_as ?_
 refine zf (zd ?_)
 refine zn F2 ?_ ?_<;>intro C3 F3
 refine zb (za ?_)
 refine s_fa zcB ?_
 refine zu yA9 ?_
 obtain ⟨v4,V4,F4⟩:=zc F3
 refine zx [] (zhi fu _ _ V4) ?_
 refine s_mv ?_
 refine zo _ 29 F4 ?_ ?_<;>intro C5 F5
 refine s_fa zgV ?_
 refine zu yA3 ?_
 refine s_eq ?_
 refine zz ?_
 refine s_mv ?_
 refine zo _ 34 F5 ?_ ?_<;>intro C6 F6
 refine s_fa zgu ?_
 refine zu yA27 ?_
 obtain ⟨v7,V7,F7⟩:=zc F6
 refine zx [] (zhw fu _ _ V7) ?_
 refine zz ?_
 refine s_mv ?_
 refine zo _ 39 F7 ?_ ?_<;>intro C8 F8
 refine s_fa zD ?_
 refine zu yA24 ?_
 refine zF yU24 ?_
 refine s_eq ?_
 refine zz ?_
 refine s_as ?_
 refine zf (zd (zh (zj (zg (zm ?_)))))
 cases F8
 exact zk _ [] Tryz.results113
 iterate 4 refine r_no rfl ?_
 refine zy ?_
 refine s_as ?_
 refine zf (zd (zh (zj (zg (zm ?_)))))
 cases F8
 exact zk _ [] Tryz.results113
 iterate 3 refine r_no rfl ?_
 refine zy ?_
 refine s_mv ?_
 iterate 4 refine r_no rfl ?_
 refine zy ?_
 refine s_as ?_
 refine zf (zd (zh (zj (zg (zm ?_)))))
 cases F6
 exact zk _ [] Tryz.results113
 iterate 3 refine r_no rfl ?_
 refine zy ?_
 refine s_mv ?_
 iterate 3 refine r_no rfl ?_
 refine zy ?_
 refine s_mv ?_
 iterate 4 refine r_no rfl ?_
 refine zy ?_
 refine s_as ?_
 refine zf (zd (zh (zj (zg (zm ?_)))))
 cases F5
 exact zk _ [] Tryz.results113
 refine zb (za ?_)
 refine s_eq ?_
 refine s_as ?_
 refine zf (zd ?_)
 refine zn F3 ?_ ?_<;>intro C9 F4
 refine zb (za ?_)
 refine s_fa zcB ?_
 refine zu yA9 ?_
 refine zhn ?_
 refine s_mv ?_
 refine zo _ 50 F4 ?_ ?_<;>intro C10 F5
 refine s_fa zgV ?_
 refine zu yA3 ?_
 obtain ⟨v11,V11,F6⟩:=zc F5
 refine zx [] (zex fu _ _ _ _ V11) ?_
 refine zz ?_
 refine s_mv ?_
 refine zo _ 55 F6 ?_ ?_<;>intro C12 F7
 refine s_fa zgu ?_
 refine zu yA27 ?_
 refine zF yU27 ?_
 refine s_eq ?_
 refine zz ?_
 refine s_mv ?_
 refine zo _ 61 F7 ?_ ?_<;>intro C13 F8
 refine s_fa zD ?_
 refine zu yA24 ?_
 refine zF yU24 ?_
 refine s_eq ?_
 refine zz ?_
 refine s_as ?_
 refine zf (zd (zh (zj (zg (zm ?_)))))
 cases F8
 exact zk _ [] Tryz.results113
 iterate 4 refine r_no rfl ?_
 refine zy ?_
 refine s_as ?_
 refine zf (zd (zh (zj (zg (zm ?_)))))
 cases F8
 exact zk _ [] Tryz.results113
 iterate 4 refine r_no rfl ?_
 refine zy ?_
 refine s_mv ?_
 iterate 4 refine r_no rfl ?_
 refine zy ?_
 refine s_as ?_
 refine zf (zd (zh (zj (zg (zm ?_)))))
 cases F7
 exact zk _ [] Tryz.results113
 iterate 3 refine r_no rfl ?_
 refine zy ?_
 refine s_mv ?_
 iterate 4 refine r_no rfl ?_
 refine zy ?_
 refine s_mv ?_
 iterate 4 refine r_no rfl ?_
 refine zy ?_
 refine s_as ?_
 refine zf (zd (zh (zj (zg (zm ?_)))))
 cases F5
 exact zk _ [] Tryz.results113
 refine zb (za ?_)
 refine s_eq ?_
 refine s_as ?_
 refine zf (zd ?_)
 refine zn F4 ?_ ?_<;>intro C14 F5
 refine zb (zb (za ?_))
 refine s_fa zcB ?_
 refine zu yA9 ?_
 refine s_neS ?_
 refine s_mv ?_
 refine zo _ 72 F5 ?_ ?_<;>intro C15 F6
 iterate 3 refine r_no rfl ?_
 refine zz ?_
 refine s_mv ?_
 iterate 4 refine r_no rfl ?_
 refine zz ?_
 refine zf (zd (zK rfl (zb (za ?_))))
 refine s_as ?_
 refine zf (zd (zh (zg (zj (zg (zm ?_))))))
 cases F6
 exact zk _ [] Tryz.results113
 refine s_fa zgV ?_
 refine zu yA3 ?_
 refine s_ne ?_
 refine zy ?_
 refine s_mv ?_
 refine zo _ 77 F6 ?_ ?_<;>intro C16 F7
 iterate 4 refine r_no rfl ?_
 refine zz ?_
 refine zf (zd (zK rfl (zb (za ?_))))
 refine s_as ?_
 refine zf (zd (zh (zg (zj (zg (zm ?_))))))
 cases F7
 exact zk _ [] Tryz.results113
 refine s_fa zgu ?_
 refine zu yA27 ?_
 refine zF yU27 ?_
 refine s_gt ?_
 refine zy ?_
 refine zf (zd ?_)
 refine zn F7 ?_ ?_<;>intro C17 F8
 refine zN 79 (fun B18=>?_)
 refine zb (za ?_)
 refine s_as ?_
 refine zf (zd (zh (zg (zj (zg (zm ?_))))))
 cases F8
 exact zk _ [] Tryz.results113
 refine zi (zd (zb (zb (za ?_))))
 refine s_fa zD ?_
 refine zu yA24 ?_
 refine zF yU24 ?_
 refine s_mv ?_
 refine zf (zd (zl ?_))
 refine zaX (β:=Int × Int) [6,8,86,87,88,89,90,91,92,93,94,95,96] [9000] [8] (fun a=>[(86,.t (.sc (.int .i64 a.2.1)))]) (fun a=>[(9000,.box [.t (.sc (.int .i64 a.2.2))])]) (fun a=>a.1≤fu∧zco a.1 x1 x2 a.2.1 a.2.2=some r∧0≤a.2.1) (fu,0,(w64 (o1-1))) ⟨Nat.le_refl _,F8,by simp⟩ ?_
 clear F8
 rintro ⟨fu,g19,g20⟩ ⟨hl21,F9,hn_g19⟩
 dsimp only at hl21 F9 hn_g19 ⊢
 obtain _ | fu:=fu
 · rw [zco] at F9;cases F9
 rw [zco] at F9
 refine zb (za ?_)
 refine s_lt ?_
 refine zf (zd (zb ?_))
 refine zn F9 ?_ ?_<;>intro C22 F10
 refine zN 84 (fun B23=>?_)
 refine zi (zd (zb (zl (zb (za ?_)))))
 obtain ⟨v24,V24,F11⟩:=zc F10
 refine zR Form.row V24 (Form.row_eq _) yE24 ?_
 refine zak yA32 yS32 ?_
 refine z4 yZ32 ?_
 refine zal yS32 ?_
 refine zf (zd (zb (za ?_)))
 refine zI yA32 yS32 ?_
 refine s_mv ?_
 refine zH rfl ?_
 refine s_mv ?_
 obtain ⟨v25,V25,F12⟩:=zc F11
 refine zL [(9000,9000)] [] _ _ (ih_m_impl_formOk fu (by omega) _ _ _ _ V25) ?_
 refine za3 ?_
 refine zf (zd ?_)
 refine zn F12 ?_ ?_<;>intro C26 F13
 refine zb (za ?_)
 refine s_as ?_
 refine zf (zd (zh (zj (zg (zw (zj (zg (zj (zg (zm ?_))))))))))
 cases F13
 exact zk _ [] Tryz.results113
 refine zi (zU (zd (za ?_)))
 refine zH (zaq C22 B23 hn_g19) ?_
 refine s_mv ?_
 refine zf ?_
 exact s_rn (fu,(g19+1),v25.2) ⟨by first | omega | (dsimp only;omega),F13,by first | omega | (dsimp only;omega)⟩
 refine zA (zq (zp (zr (zd (zb (za ?_))))))
 refine s_as ?_
 refine zf (zd (zh (zj (zg (zm ?_)))))
 cases F10
 exact zk _ [] Tryz.results113
 refine zi (zU (zd (zb (za ?_))))
 refine s_as ?_
 refine zf (zd (zh (zm ?_)))
 cases F5
 exact zk _ [] Tryz.results113
theorem m_impl_formOk_all (fuel:Nat):zfW fuel:=by
 induction fuel using Nat.strongRecOn with
 | _ N ih =>
   cases N with
   | zero=>exact (by intro x1 x2 o1 r h;rw [zd8] at h;cases h)
   | succ fu=>exact m_impl_formOk_st fu (fun k hk=>(ih k (by omega)))
theorem m_impl_formOk_ok (fuel:Nat):zfW fuel:=(m_impl_formOk_all fuel)
def m_impl_FormValid_AC (fuel:Nat):Prop:=∀ (x1:Form) (r:Bool),zbL fuel x1=some r→AC Tryz.prog 50 [.ag [.t (.sc (.int .i64 x1.kind)),.t (.sc (.str x1.name)),.t (.sc (.int .i64 x1.n)),.t (.sl (x1.scopes.map rI)),.t (.sl (x1.kids.map Form.row))]] noOb (.t (.sc (.bool r))) noOb
theorem zcz (fuel:Nat):m_impl_FormValid_AC fuel:=by
 intro x1 r F0
 unfold zbL at F0
 refine AC_i [.t (.sc (.bool r))] Tryz.func50 rfl Tryz.ntmps50 ?_
 intro C hC
 refine zb (za ?_)
 refine za7 ?_
 refine s_as ?_
 refine zf (zd (zb (za ?_)))
 refine z4 yZ3 ?_
 refine zal yS3 ?_
 refine zf (zd (zb (za ?_)))
 refine zI yA32 yS32 ?_
 obtain ⟨v1,V1,F1⟩:=zc F0
 refine zL [(9000,3)] [] _ _ (m_impl_formOk_ok fuel _ _ _ _ V1) ?_
 refine s_as ?_
 refine zf (zd (zh (zm ?_)))
 cases F1
 exact zk [] [] Tryz.results50
def m_impl_isName_AC (fuel:Nat):Prop:=∀ (x1:Form) (r:Bool),zc4 fuel x1=some r→AC Tryz.prog 123 [.ag [.t (.sc (.int .i64 x1.kind)),.t (.sc (.str x1.name)),.t (.sc (.int .i64 x1.n)),.t (.sl (x1.scopes.map rI)),.t (.sl (x1.kids.map Form.row))]] noOb (.t (.sc (.bool r))) noOb
theorem zez (fuel:Nat):m_impl_isName_AC fuel:=by
 intro x1 r F0
 unfold zc4 at F0
 refine AC_i [.t (.sc (.bool r))] Tryz.func123 rfl Tryz.ntmps123 ?_
 intro C hC
 refine zb (za ?_)
 refine za7 ?_
 refine s_as ?_
 refine zf (zd (zb (za ?_)))
 refine s_fa zcN ?_
 refine zu yA3 ?_
 refine s_eq ?_
 refine s_mv ?_
 refine zo _ 6 F0 ?_ ?_<;>intro C1 F1
 refine zI yA32 yS32 ?_
 obtain ⟨v2,V2,F2⟩:=zc F1
 refine zx [] (zcz fuel _ _ V2) ?_
 refine zz ?_
 refine s_as ?_
 refine zf (zd (zh (zm ?_)))
 cases F2
 exact zk [] [] Tryz.results123
 refine r_no rfl (r_no rfl ?_)
 refine zy ?_
 refine s_as ?_
 refine zf (zd (zh (zm ?_)))
 cases F1
 exact zk [] [] Tryz.results123
def m_slices_Equal_int_AC (fuel:Nat):Prop:=∀ (x1:(List Int)) (x2:(List Int)) (r:Bool),zcO fuel x1 x2=some r→AC Tryz.prog 34 [.t (.sl (x1.map rI)),.t (.sl (x2.map rI))] noOb (.t (.sc (.bool r))) noOb
theorem zgL (fuel:Nat):m_slices_Equal_int_AC fuel:=by
 intro x1 x2 r F0
 unfold zcO at F0
 refine AC_i [.t (.sc (.bool r))] Tryz.func34 rfl Tryz.ntmps34 ?_
 intro C hC
 refine zb (za ?_)
 refine s_as ?_
 refine zf (zd (zb (zb (za ?_))))
 refine s_mv ?_
 refine zF yU27 ?_
 refine s_mv ?_
 refine zF yU27 ?_
 refine s_ne ?_
 refine zf (zd ?_)
 refine zn F0 ?_ ?_<;>intro C1 F1
 refine zb (za ?_)
 refine s_as ?_
 refine zf (zd (zh (zg (zm ?_))))
 cases F1
 exact zk [] [] Tryz.results34
 refine zi (zd (zb (zb (za ?_))))
 refine s_mv ?_
 refine zF yU27 ?_
 refine s_mv ?_
 refine zf (zd (zl ?_))
 refine zaX (β:=Int) [4,5,13,14,15,16,17,18,19,20,21,22,23,24,25] [] [] (fun a=>[(13,.t (.sc (.int .i64 a.2)))]) (fun a=>[]) (fun a=>a.1≤fuel∧zbH a.1 x1 x2 a.2=some r∧0≤a.2) (fuel,0) ⟨Nat.le_refl _,F1,by simp⟩ ?_
 clear F1
 rintro ⟨fu,g2⟩ ⟨hl3,F2,hn_g2⟩
 dsimp only at hl3 F2 hn_g2 ⊢
 obtain _ | fu:=fu
 · rw [zbH] at F2;cases F2
 rw [zbH] at F2
 refine zb (za ?_)
 refine s_lt ?_
 refine zf (zd (zb ?_))
 refine zn F2 ?_ ?_<;>intro C4 F3
 refine zN 0 (fun B5=>?_)
 refine zi (zd (zb (zl (zb (za ?_)))))
 refine s_mv ?_
 refine s_as ?_
 refine zf (zd (zb ?_))
 refine zZ yMix (by kernel_rfl) ?_
 refine s_mv ?_
 refine s_mv ?_
 obtain ⟨v6,V6,F4⟩:=zc F3
 refine zR rI V6 rfl yE27 ?_
 refine zu yA3 ?_
 refine s_mv ?_
 refine s_mv ?_
 obtain ⟨v7,V7,F5⟩:=zc F4
 refine zR rI V7 rfl yE27 ?_
 refine zu yA3 ?_
 refine s_ne ?_
 refine zam (by kernel_rfl) ?_
 refine zd ?_
 refine zn F5 ?_ ?_<;>intro C8 F6
 refine zb (za ?_)
 refine s_as ?_
 refine zf (zd (zh (zj (zg (zw (zj (zg (zm ?_))))))))
 cases F6
 exact zk [] [] Tryz.results34
 refine zi (zU (zd (za ?_)))
 refine zH (zaq C4 B5 hn_g2) ?_
 refine s_mv ?_
 refine zf ?_
 exact s_rn (fu,(g2+1)) ⟨by first | omega | (dsimp only;omega),F6,by first | omega | (dsimp only;omega)⟩
 refine zA (zq (zp (zr (zd (zb (za ?_))))))
 refine s_as ?_
 refine zf (zd (zh (zm ?_)))
 cases F3
 exact zk [] [] Tryz.results34
end Go.Abs
