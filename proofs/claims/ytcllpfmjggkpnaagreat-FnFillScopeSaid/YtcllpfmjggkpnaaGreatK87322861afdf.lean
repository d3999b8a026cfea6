/- A part of the proof: what the functions that the law calls answer, as pure values. -/
import Derived.Test.YtcllpfmjggkpnaaGreatK9bcc122aa3c3
import Derived.Test.YtcllpfmjggkpnaaGreatK87b9047474df
import Derived.Test.YtcllpfmjggkpnaaGreatK91fcc0fd7672
import Derived.Test.YtcllpfmjggkpnaaGreatK00c3c4c2cad6
import Derived.Test.YtcllpfmjggkpnaaGreatKb799e7f6f25f
import Derived.Test.YtcllpfmjggkpnaaGreatKf8320a019dd3
import Derived.Test.YtcllpfmjggkpnaaGreatK1df75f79e59f
import Derived.Test.YtcllpfmjggkpnaaGreatK9007fc86218d
set_option linter.unusedSimpArgs false
set_option linter.unusedVariables false
set_option maxRecDepth 100000
set_option maxHeartbeats 4000000
namespace Go.Abs
open Go.Proofs
theorem m_spec_l5Fill_all (fuel:Nat):zfw fuel:=by
 induction fuel using Nat.strongRecOn with
 | _ N ih =>
   cases N with
   | zero=>exact (by intro x1 x2 r h;rw [zda] at h;cases h)
   | succ fu=>exact m_spec_l5Fill_st fu (fun k hk=>(ih k (by omega)))
theorem m_spec_l5Fill_ok (fuel:Nat):zfw fuel:=(m_spec_l5Fill_all fuel)
def m_spec_FillTemplate_AC (fuel:Nat):Prop:=∀ (x1:Form) (x2:(List Hit)) (r:(Form × Bool)),zdt fuel x1 x2=some r→AC Tryz.prog 14 [.ag [.t (.sc (.int .i64 x1.kind)),.t (.sc (.str x1.name)),.t (.sc (.int .i64 x1.n)),.t (.sl (x1.scopes.map rI)),.t (.sl (x1.kids.map Form.row))],.t (.sl (x2.map Hit.row))] noOb (.tp [.ag [.t (.sc (.int .i64 r.1.kind)),.t (.sc (.str r.1.name)),.t (.sc (.int .i64 r.1.n)),.t (.sl (r.1.scopes.map rI)),.t (.sl (r.1.kids.map Form.row))],.t (.sc (.bool r.2))]) noOb
theorem m_spec_FillTemplate_ok (fuel:Nat):m_spec_FillTemplate_AC fuel:=by
 intro x1 x2 r F0
 unfold zdt at F0
 refine AC_i [.ag [.t (.sc (.int .i64 r.1.kind)),.t (.sc (.str r.1.name)),.t (.sc (.int .i64 r.1.n)),.t (.sl (r.1.scopes.map rI)),.t (.sl (r.1.kids.map Form.row))],.t (.sc (.bool r.2))] Tryz.func14 rfl Tryz.ntmps14 ?_
 intro C hC
 refine zb (za ?_)
 refine za9 ?_
 refine zR yZ27 ?_
 refine s_as ?_
 refine zf (zd (zb (za ?_)))
 refine zJ yA27 yS27 ?_
 obtain ⟨v1,V1,F1⟩:=zc F0
 refine zx [] (m_spec_l15OwnForm_ok fuel _ _ V1) ?_
 refine zac yS27 ?_
 refine zf (zd (zb (zb (za ?_))))
 refine zJ yA27 yS27 ?_
 refine s_mv ?_
 obtain ⟨v2,V2,F2⟩:=zc F1
 refine zx [] (zhN fuel _ _ _ V2) ?_
 refine zbq ?_
 refine zf (zd ?_)
 refine zm F2 ?_ ?_<;>intro C3 F3
 refine zb (za ?_)
 refine zeJ yZ27 yL27 ?_
 refine zac yS27 ?_
 refine s_as ?_
 refine zf (zd (zh (zg (zn ?_))))
 cases F3
 exact zI [] [] (by rw [Tryz.results14];exact (zZ (by conv=>lhs;whnf) (by conv=>lhs;whnf) yA27 yS27 rfl (zah (by conv=>lhs;whnf) zP)))
 refine zi (zd (zb (za ?_)))
 refine zJ yA27 yS27 ?_
 refine s_mv ?_
 obtain ⟨v4,V4,F4⟩:=zc F3
 refine zx [] (m_spec_l5Fill_ok fuel _ _ _ V4) ?_
 refine s_mv ?_
 refine zbJ ?_
 refine zbJ ?_
 refine zR yZ27 ?_
 refine zac yS27 ?_
 refine s_as ?_
 refine zf (zd (zb (zb (za ?_))))
 refine s_mv ?_
 refine zbq ?_
 refine s_mv ?_
 refine zo _ 23 F4 ?_ ?_<;>intro C5 F5
 iterate 3 refine r_no rfl ?_
 refine zz ?_
 refine zf (zd (zM rfl (zb (za ?_))))
 refine zeJ yZ27 yL27 ?_
 refine zac yS27 ?_
 refine s_as ?_
 refine zf (zd (zh (zg (zn ?_))))
 cases F5
 exact zI [] [] (by rw [Tryz.results14];exact (zZ (by conv=>lhs;whnf) (by conv=>lhs;whnf) yA27 yS27 rfl (zah (by conv=>lhs;whnf) zP)))
 refine zJ yA27 yS27 ?_
 obtain ⟨v6,V6,F6⟩:=zc F5
 refine zx [] (zaQ fuel _ _ V6) ?_
 refine zbq ?_
 refine zB ?_
 refine zf (zd ?_)
 refine zm F6 ?_ ?_<;>intro C7 F7
 refine zb (za ?_)
 refine zeJ yZ27 yL27 ?_
 refine zac yS27 ?_
 refine s_as ?_
 refine zf (zd (zh (zg (zn ?_))))
 cases F7
 exact zI [] [] (by rw [Tryz.results14];exact (zZ (by conv=>lhs;whnf) (by conv=>lhs;whnf) yA27 yS27 rfl (zah (by conv=>lhs;whnf) zP)))
 refine zi (zd (zb (za ?_)))
 refine zJ yA27 yS27 ?_
 refine zac yS27 ?_
 refine s_as ?_
 refine zf (zd (zh (zn ?_)))
 cases F7
 exact zI [] [] (by rw [Tryz.results14];exact (zZ (by conv=>lhs;whnf) (by conv=>lhs;whnf) yA27 yS27 rfl (zah (by conv=>lhs;whnf) zP)))
def m_laws_FnFillScope_AC (fuel:Nat):Prop:=∀ (x1:(List Int)) (r:Bool),zeO fuel x1=some r→AC Tryz.prog 4 [.t (.sl (x1.map rB))] noOb (.t (.sc (.bool r))) noOb
theorem m_laws_FnFillScope_ok (fuel:Nat):m_laws_FnFillScope_AC fuel:=by
 intro x1 r F0
 unfold zeO at F0
 refine AC_i [.t (.sc (.bool r))] Tryz.func4 rfl Tryz.ntmps4 ?_
 intro C hC
 refine zb (za ?_)
 refine s_as ?_
 refine zf (zd (zb (zb (za ?_))))
 refine s_mv ?_
 refine zF yU22 ?_
 refine s_gt ?_
 refine zf (zd ?_)
 refine zm F0 ?_ ?_<;>intro C1 F1
 refine zW 0 (fun B2=>?_)
 refine zb (za ?_)
 refine s_as ?_
 refine zf (zd (zh (zg (zn ?_))))
 cases F1
 exact zl [] [] Tryz.results4
 refine zi (zd (zb (za ?_)))
 refine s_mv ?_
 obtain ⟨v3,V3,F2⟩:=zc F1
 refine zx [] (zg8 fuel _ _ V3) ?_
 refine s_mv ?_
 refine zbJ ?_
 refine zbJ ?_
 refine zR yZ27 ?_
 refine zac yS27 ?_
 refine s_as ?_
 refine zf (zd (zb (za ?_)))
 refine zJ yA27 yS27 ?_
 refine s_mv ?_
 obtain ⟨v4,V4,F3⟩:=zc F2
 refine zx [] (zgh fuel _ _ _ V4) ?_
 refine s_mv ?_
 refine zbJ ?_
 refine zbJ ?_
 refine zR yZ27 ?_
 refine zac yS27 ?_
 refine s_as ?_
 refine zf (zd (zb (za ?_)))
 refine zJ yA27 yS27 ?_
 refine s_mv ?_
 obtain ⟨v5,V5,F4⟩:=zc F3
 refine zx [] (m_spec_FillTemplate_ok fuel _ _ _ V5) ?_
 refine s_mv ?_
 refine zbJ ?_
 refine zbJ ?_
 refine zR yZ27 ?_
 refine zac yS27 ?_
 refine s_as ?_
 refine zf (zd (zb ?_))
 refine zbj (α:=Nat × Bool) [35,36,37,38,39,40,41,42,43,44,45,46,47,48,49,50,51,52] [] [] (fun a=>[(52,.t (.sc (.bool a.2)))]) (fun a=>[]) (fun a=>a.1≤fuel∧zaC a.1 v3 v4 v5 a.2=some r) ?_ ?_
 refine za ?_
 refine zJ yA27 yS27 ?_
 refine zJ yA27 yS27 ?_
 obtain ⟨v6,V6,F5⟩:=zc F4
 refine zx [] (zbL fuel _ _ _ V6) ?_
 refine zbq ?_
 refine s_mv ?_
 refine zo _ 39 F5 ?_ ?_<;>intro C7 F6
 iterate 3 refine r_no rfl ?_
 refine zz ?_
 refine s_mv ?_
 refine r_no rfl (r_no rfl ?_)
 refine zz ?_
 refine s_mv ?_
 iterate 3 refine r_no rfl ?_
 refine zz ?_
 refine zf ?_
 exact s_jn (fuel,true) ⟨by first | omega | (dsimp only;omega),F6⟩
 refine s_mv ?_
 refine s_mv ?_
 refine s_neB yU4 ?_
 refine zB ?_
 refine s_mv ?_
 refine zo _ 44 F6 ?_ ?_<;>intro C8 F7
 refine r_no rfl (r_no rfl ?_)
 refine zz ?_
 refine s_mv ?_
 iterate 3 refine r_no rfl ?_
 refine zz ?_
 refine zf ?_
 exact s_jn (fuel,true) ⟨by first | omega | (dsimp only;omega),F7⟩
 refine s_mv ?_
 refine zbq ?_
 refine zB ?_
 refine s_mv ?_
 refine zo _ 48 F7 ?_ ?_<;>intro C9 F8
 iterate 3 refine r_no rfl ?_
 refine zz ?_
 refine zf ?_
 exact s_jn (fuel,true) ⟨by first | omega | (dsimp only;omega),F8⟩
 refine s_mv ?_
 refine zF yU30 ?_
 refine s_gt ?_
 refine zB ?_
 refine zf ?_
 exact s_jn (fuel,(decide (0 < (v3.2.length:Int)))) ⟨by first | omega | (dsimp only;omega),F8⟩
 clear F4
 rintro ⟨fu,g10⟩ ⟨hl11,F5⟩
 dsimp only at hl11 F5 ⊢
 obtain _ | fu:=fu
 · rw [zaC] at F5;cases F5
 rw [zaC] at F5
 refine zm F5 ?_ ?_<;>intro C12 F6
 refine zbj (α:=Nat × Bool) [2,53,54,55,56,57,58,59,60] [] [] (fun a=>[(2,.t (.sc (.bool a.2)))]) (fun a=>[]) (fun a=>a.1≤fu∧zb4 a.1  a.2=some r) ?_ ?_
 refine za ?_
 refine zJ yA27 yS27 ?_
 refine zJ yA27 yS27 ?_
 obtain ⟨v13,V13,F7⟩:=zc F6
 refine zx [] (zbL fu _ _ _ V13) ?_
 refine s_mv ?_
 refine zo _ 56 F7 ?_ ?_<;>intro C14 F8
 refine s_mv ?_
 refine s_mv ?_
 refine s_eqB yU4 ?_
 refine zz ?_
 refine s_as ?_
 refine zf ?_
 exact s_jn (fu,(decide (v4.2=v5.2))) ⟨by first | omega | (dsimp only;omega),F8⟩
 iterate 3 refine r_no rfl ?_
 refine zB ?_
 refine s_as ?_
 refine zf ?_
 exact s_jn (fu,false) ⟨by first | omega | (dsimp only;omega),F8⟩
 clear F6
 rintro ⟨fu,g15⟩ ⟨hl16,F7⟩
 dsimp only at hl16 F7 ⊢
 obtain _ | fu:=fu
 · rw [zb4] at F7;cases F7
 rw [zb4] at F7
 refine zh (zg (zn ?_))
 cases F7
 exact zl [] [] Tryz.results4
 refine zi (zd (zb (za ?_)))
 refine zJ yA27 yS27 ?_
 obtain ⟨v17,V17,F7⟩:=zc F6
 refine zx [] (zhg fu _ _ _ V17) ?_
 refine s_mv ?_
 refine zbJ ?_
 refine zbJ ?_
 refine zR yZ27 ?_
 refine zac yS27 ?_
 refine s_as ?_
 refine zf (zd (zb (za ?_)))
 refine zJ yA27 yS27 ?_
 obtain ⟨v18,V18,F8⟩:=zc F7
 refine zx [] (zhg fu _ _ _ V18) ?_
 refine s_mv ?_
 refine zbJ ?_
 refine zbJ ?_
 refine zR yZ27 ?_
 refine zac yS27 ?_
 refine s_as ?_
 refine zf (zd (zb (za ?_)))
 refine zJ yA27 yS27 ?_
 obtain ⟨v19,V19,F9⟩:=zc F8
 refine zx [] (zgh fu _ _ _ V19) ?_
 refine s_mv ?_
 refine zbJ ?_
 refine zbJ ?_
 refine zR yZ27 ?_
 refine zac yS27 ?_
 refine s_as ?_
 refine zf (zd (zb (za ?_)))
 refine s_mv ?_
 refine zbq ?_
 refine s_mv ?_
 refine zo _ 78 F9 ?_ ?_<;>intro C20 F10
 refine r_no rfl (r_no rfl ?_)
 refine zz ?_
 refine s_mv ?_
 iterate 6 refine r_no rfl ?_
 refine zz ?_
 refine s_as ?_
 refine zf (zd (zh (zn ?_)))
 cases F10
 exact zl [] [] Tryz.results4
 refine s_mv ?_
 refine zbq ?_
 refine zB ?_
 refine s_mv ?_
 refine zo _ 82 F10 ?_ ?_<;>intro C21 F11
 iterate 6 refine r_no rfl ?_
 refine zz ?_
 refine s_as ?_
 refine zf (zd (zh (zn ?_)))
 cases F11
 exact zl [] [] Tryz.results4
 refine s_mv ?_
 refine s_mv ?_
 refine zo _ 84 F11 ?_ ?_<;>intro C22 F12
 refine zJ yA27 yS27 ?_
 refine zJ yA27 yS27 ?_
 obtain ⟨v23,V23,F13⟩:=zc F12
 refine zx [] (zbL fu _ _ _ V23) ?_
 refine zz ?_
 refine zB ?_
 refine s_as ?_
 refine zf (zd (zh (zn ?_)))
 cases F13
 exact zl [] [] Tryz.results4
 iterate 3 refine r_no rfl ?_
 refine zB ?_
 refine zB ?_
 refine s_as ?_
 refine zf (zd (zh (zn ?_)))
 cases F12
 exact zl [] [] Tryz.results4
end Go.Abs
