/- A part of the proof: what the functions that the law calls answer, as pure values. -/
import Derived.Test.YtjjjnhpghhamkaaGreatKc0fe836f7e33
import Derived.Test.YtjjjnhpghhamkaaGreatK8d582f2e31e6
import Derived.Test.YtjjjnhpghhamkaaGreatK4ee70f842008
import Derived.Test.YtjjjnhpghhamkaaGreatK0782c27d5cbf
import Derived.Test.YtjjjnhpghhamkaaGreatKaa13c66553ec
import Derived.Test.YtjjjnhpghhamkaaGreatK06634278733b
import Derived.Test.YtjjjnhpghhamkaaGreatK91f32b36ae25
import Derived.Test.YtjjjnhpghhamkaaGreatK17021f080395
import Derived.Test.YtjjjnhpghhamkaaGreatK48decf646e3b
import Derived.Test.YtjjjnhpghhamkaaGreatKfe938720da0d
set_option linter.unusedSimpArgs false
set_option linter.unusedVariables false
set_option maxRecDepth 100000
set_option maxHeartbeats 4000000
namespace Go.Abs
open Go.Proofs
theorem m_impl_fill_1_st (fu:Nat) (ih_m_impl_fill:∀ k,k≤fu→zgp k) (ih_m_impl_fill_1:∀ k,k≤fu→zgC k):zgC (fu+1):=by
 intro x1 x2 o1 o2 r F0
 rw [zeh] at F0
 refine AC_i [.t (.sc (.bool r.1))] Tryz.func165 rfl Tryz.ntmps165 ?_
 intro C hC
 refine zb (za ?_)
 refine zaN ?_
 refine s_as ?_
 refine zf (zd (zb (za ?_)))
 refine zG yA27 yS27 ?_
 refine s_mv ?_
 obtain ⟨v1,V1,F1⟩:=zc F0
 refine zv [] (ih_m_impl_fill fu (by omega) _ _ _ V1) ?_
 refine s_mv ?_
 refine za4 ?_
 refine za4 ?_
 refine zU yZ27 ?_
 refine zab yS27 ?_
 refine s_as ?_
 refine zf (zd (zb (zb (za ?_))))
 refine s_mv ?_
 refine zaG ?_
 refine zf (zd ?_)
 refine zm F1 ?_ ?_<;>intro C2 F2
 refine zb (za ?_)
 refine s_as ?_
 refine zf (zd ?_)
 refine zeV 9001 9444 10444 [.t (.sc (.int .i64 o2.kind)),.t (.sc (.str o2.name)),.t (.sc (.int .i64 o2.n)),.t (.sl (o2.scopes.map rI)),.ar 10444] ?_
 refine zh (zg (zn ?_))
 cases F2
 exact zk _ [] Tryz.results165
 refine zi (zd (zb ?_))
 refine zP yMix (by kernel_rfl) ?_
 refine zu yA3 ?_
 refine zG yA27 yS27 ?_
 obtain ⟨v3,V3,F3⟩:=zc F2
 refine zv [] (m_impl_FormSize_ok fu _ _ V3) ?_
 refine zJ rfl ?_
 refine zab yS3 ?_
 refine zah (by kernel_rfl) ?_
 refine zd (zb ?_)
 refine zP yMix (by kernel_rfl) ?_
 refine s_fa zF ?_
 refine zu yA25 ?_
 refine zG yA27 yS27 ?_
 refine zhc yU25 ?_
 refine s_bs Form.row [(Form.mk 0 (⟨#[]⟩:ByteArray) 0 ([]:List Int) ([]:List Form))] yP25 yR27 ?_
 obtain ⟨hk4,F4⟩:=zac F3
 refine zel Form.row (fun y=>Form.row_len y) hk4 yP25 ?_
 obtain ⟨v5,V5,F5⟩:=zc F4
 refine ziy Form.row V5 yE25 ?_
 refine s_stA Form.row v1.1 V5 (Form.row_eq _) (Form.row_eq _) yS27 yS27 ?_
 refine s_fa zF ?_
 refine zii yS25 ?_
 refine zah (by kernel_rfl) ?_
 refine zd (zb (za ?_))
 refine zu yA3 ?_
 refine s_le ?_
 refine s_as ?_
 refine zf (zd ?_)
 refine zeV 9001 26 10444 [.t (.sc (.int .i64 o2.kind)),.t (.sc (.str o2.name)),.t (.sc (.int .i64 o2.n)),.t (.sl (o2.scopes.map rI)),.ar 10444] ?_
 refine zh (zn ?_)
 cases F5
 exact zk _ [] Tryz.results165
theorem m_impl_fill_all (fuel:Nat):zgp fuel∧zgC fuel:=by
 induction fuel using Nat.strongRecOn with
 | _ N ih =>
   cases N with
   | zero=>exact ⟨(by intro x1 x2 r h;rw [zes] at h;cases h),(by intro x1 x2 o1 o2 r h;rw [zeh] at h;cases h)⟩
   | succ fu=>exact ⟨m_impl_fill_st fu (fun k hk=>(ih k (by omega)).1) (fun k hk=>(ih k (by omega)).2),m_impl_fill_1_st fu (fun k hk=>(ih k (by omega)).1) (fun k hk=>(ih k (by omega)).2)⟩
theorem m_impl_fill_ok (fuel:Nat):zgp fuel:=(m_impl_fill_all fuel).1
def m_impl_formOr_AC (fuel:Nat):Prop:=∀ (x1:Form) (r:(Form × Bool)),zhT fuel x1=some r→AC Tryz.prog 110 [.ag [.t (.sc (.int .i64 x1.kind)),.t (.sc (.str x1.name)),.t (.sc (.int .i64 x1.n)),.t (.sl (x1.scopes.map rI)),.t (.sl (x1.kids.map Form.row))]] noOb (.tp [.ag [.t (.sc (.int .i64 r.1.kind)),.t (.sc (.str r.1.name)),.t (.sc (.int .i64 r.1.n)),.t (.sl (r.1.scopes.map rI)),.t (.sl (r.1.kids.map Form.row))],.t (.sc (.bool r.2))]) noOb
theorem m_impl_formOr_ok (fuel:Nat):m_impl_formOr_AC fuel:=by
 intro x1 r F0
 unfold zhT at F0
 refine AC_i [.ag [.t (.sc (.int .i64 r.1.kind)),.t (.sc (.str r.1.name)),.t (.sc (.int .i64 r.1.n)),.t (.sl (r.1.scopes.map rI)),.t (.sl (r.1.kids.map Form.row))],.t (.sc (.bool r.2))] Tryz.func110 rfl Tryz.ntmps110 ?_
 intro C hC
 refine zb (za ?_)
 refine zaN ?_
 refine zU yZ27 ?_
 refine s_as ?_
 refine zf (zd (zb (zb (za ?_))))
 refine zG yA27 yS27 ?_
 obtain ⟨v1,V1,F1⟩:=zc F0
 refine zv [] (zbO fuel _ _ V1) ?_
 refine zaG ?_
 refine zf (zd ?_)
 refine zm F1 ?_ ?_<;>intro C2 F2
 refine zb (za ?_)
 refine zgE yZ27 yL27 ?_
 refine zab yS27 ?_
 refine s_as ?_
 refine zf (zd (zh (zg (zn ?_))))
 cases F2
 exact zZ [] [] (by rw [Tryz.results110];exact (zas (by conv=>lhs;whnf) (by conv=>lhs;whnf) yA27 yS27 rfl (zaj (by conv=>lhs;whnf) zae)))
 refine zi (zd (zb (za ?_)))
 refine zG yA27 yS27 ?_
 obtain ⟨v3,V3,F3⟩:=zc F2
 refine zv [] (zdl fuel _ _ V3) ?_
 refine zab yS27 ?_
 refine s_as ?_
 refine zf (zd (zh (zn ?_)))
 cases F3
 exact zZ [] [] (by rw [Tryz.results110];exact (zas (by conv=>lhs;whnf) (by conv=>lhs;whnf) yA27 yS27 rfl (zaj (by conv=>lhs;whnf) zae)))
def m_impl_FillTemplate_AC (fuel:Nat):Prop:=∀ (x1:Form) (x2:(List Hit)) (r:(Form × Bool)),zc0 fuel x1 x2=some r→AC Tryz.prog 51 [.ag [.t (.sc (.int .i64 x1.kind)),.t (.sc (.str x1.name)),.t (.sc (.int .i64 x1.n)),.t (.sl (x1.scopes.map rI)),.t (.sl (x1.kids.map Form.row))],.t (.sl (x2.map Hit.row))] noOb (.tp [.ag [.t (.sc (.int .i64 r.1.kind)),.t (.sc (.str r.1.name)),.t (.sc (.int .i64 r.1.n)),.t (.sl (r.1.scopes.map rI)),.t (.sl (r.1.kids.map Form.row))],.t (.sc (.bool r.2))]) noOb
theorem zhh (fuel:Nat):m_impl_FillTemplate_AC fuel:=by
 intro x1 x2 r F0
 unfold zc0 at F0
 refine AC_i [.ag [.t (.sc (.int .i64 r.1.kind)),.t (.sc (.str r.1.name)),.t (.sc (.int .i64 r.1.n)),.t (.sl (r.1.scopes.map rI)),.t (.sl (r.1.kids.map Form.row))],.t (.sc (.bool r.2))] Tryz.func51 rfl Tryz.ntmps51 ?_
 intro C hC
 refine zb (za ?_)
 refine zaN ?_
 refine zU yZ27 ?_
 refine s_as ?_
 refine zf (zd (zb (zb (za ?_))))
 refine zG yA27 yS27 ?_
 refine s_mv ?_
 obtain ⟨v1,V1,F1⟩:=zc F0
 refine zv [] (zjd fuel _ _ _ V1) ?_
 refine zaG ?_
 refine zf (zd ?_)
 refine zm F1 ?_ ?_<;>intro C2 F2
 refine zb (za ?_)
 refine zgE yZ27 yL27 ?_
 refine zab yS27 ?_
 refine s_as ?_
 refine zf (zd (zh (zg (zn ?_))))
 cases F2
 exact zZ [] [] (by rw [Tryz.results51];exact (zas (by conv=>lhs;whnf) (by conv=>lhs;whnf) yA27 yS27 rfl (zaj (by conv=>lhs;whnf) zae)))
 refine zi (zd (zb (za ?_)))
 refine zG yA27 yS27 ?_
 refine s_mv ?_
 obtain ⟨v3,V3,F3⟩:=zc F2
 refine zv [] (m_impl_fill_ok fuel _ _ _ V3) ?_
 refine s_mv ?_
 refine za4 ?_
 refine za4 ?_
 refine zU yZ27 ?_
 refine zab yS27 ?_
 refine s_as ?_
 refine zf (zd (zb (zb (za ?_))))
 refine s_mv ?_
 refine zaG ?_
 refine zf (zd ?_)
 refine zm F3 ?_ ?_<;>intro C4 F4
 refine zb (za ?_)
 refine zgE yZ27 yL27 ?_
 refine zab yS27 ?_
 refine s_as ?_
 refine zf (zd (zh (zg (zn ?_))))
 cases F4
 exact zZ [] [] (by rw [Tryz.results51];exact (zas (by conv=>lhs;whnf) (by conv=>lhs;whnf) yA27 yS27 rfl (zaj (by conv=>lhs;whnf) zae)))
 refine zi (zd (zb (za ?_)))
 refine zG yA27 yS27 ?_
 obtain ⟨v5,V5,F5⟩:=zc F4
 refine zv [] (m_impl_formOr_ok fuel _ _ V5) ?_
 refine za4 ?_
 refine za4 ?_
 refine zab yS27 ?_
 refine s_as ?_
 refine zf (zd (zh (zn ?_)))
 cases F5
 exact zZ [] [] (by rw [Tryz.results51];exact (zas (by conv=>lhs;whnf) (by conv=>lhs;whnf) yA27 yS27 rfl (zaj (by conv=>lhs;whnf) zae)))
def zdv (fuel:Nat):Prop:=∀ (x1:Form) (r:Form),zbr fuel x1=some r→AC Tryz.prog 111 [.ag [.t (.sc (.int .i64 x1.kind)),.t (.sc (.str x1.name)),.t (.sc (.int .i64 x1.n)),.t (.sl (x1.scopes.map rI)),.t (.sl (x1.kids.map Form.row))]] noOb (.ag [.t (.sc (.int .i64 r.kind)),.t (.sc (.str r.name)),.t (.sc (.int .i64 r.n)),.t (.sl (r.scopes.map rI)),.t (.sl (r.kids.map Form.row))]) noOb
def zdj (fuel:Nat):Prop:=∀ (x1:(List Form)) (r:(List Form)),zdb fuel x1=some r→AC Tryz.prog 168 [.t (.sl (x1.map Form.row))] noOb (.t (.sl (r.map Form.row))) noOb
theorem m_spec_l15OwnForm_st (fu:Nat) (ih_m_spec_l15OwnForm:∀ k,k≤fu→zdv k) (ih_m_spec_l15OwnListForm:∀ k,k≤fu→zdj k):zdv (fu+1):=by
 intro x1 r F0
 rw [zbr] at F0
 refine AC_i [.ag [.t (.sc (.int .i64 r.kind)),.t (.sc (.str r.name)),.t (.sc (.int .i64 r.n)),.t (.sl (r.scopes.map rI)),.t (.sl (r.kids.map Form.row))]] Tryz.func111 rfl Tryz.ntmps111 ?_
 intro C hC
 refine zb (za ?_)
 refine zaN ?_
 refine zU yZ27 ?_
 refine zf (zd (zb (za ?_)))
 refine s_bs rI ([]:List Int) yP24 yR3 ?_
 refine s_fa zf9 ?_
 refine zu yA24 ?_
 obtain ⟨hk1,F1⟩:=zac F0
 refine zel rI (fun _=>rfl) hk1 yP24 ?_
 refine s_fa zf9 ?_
 refine zii yS24 ?_
 refine zf (zd (zb (za ?_)))
 refine s_fa zF ?_
 refine zu yA25 ?_
 obtain ⟨v2,V2,F2⟩:=zc F1
 refine zv [] (ih_m_spec_l15OwnListForm fu (by omega) _ _ V2) ?_
 refine s_fa zF ?_
 refine zii yS25 ?_
 refine zf (zd (zb (za ?_)))
 refine zG yA27 yS27 ?_
 refine zab yS27 ?_
 refine zf (zd (zh (zn ?_)))
 cases F2
 exact zZ [] [6] (by rw [Tryz.results111];exact (zas (by conv=>lhs;whnf) (by conv=>lhs;whnf) yA27 yS27 rfl zae))
theorem ziP (fu:Nat) (ih_m_spec_l15OwnForm:∀ k,k≤fu→zdv k) (ih_m_spec_l15OwnListForm:∀ k,k≤fu→zdj k):zdj (fu+1):=by
 intro x1 r F0
 rw [zdb] at F0
 refine AC_i [.t (.sl (r.map Form.row))] Tryz.func168 rfl Tryz.ntmps168 ?_
 intro C hC
 refine zb (za ?_)
 refine s_as ?_
 refine zf (zd (zb (za ?_)))
 refine s_bs Form.row ([]:List Form) yP25 yR27 ?_
 refine s_as ?_
 refine zf (zd (zb (zb (za ?_))))
 refine s_mv ?_
 refine zC yU25 ?_
 refine s_mv ?_
 refine zf (zd (zl ?_))
 refine zeI 3 6 5020 (by conv=>lhs;whnf) (by conv=>lhs;whnf) rfl ?_
 refine zak [3,5,9,10,11,12,13,14,15,16,17,18] [5020] [5,16,17] [5020] (fun a:Nat × (List Form) × Int=>a.1) (fun a:Nat × (List Form) × Int=>[(3,.ar 5020),(9,.t (.sc (.int .i64 a.2.2)))]) (fun a:Nat × (List Form) × Int=>[(5020,.arr (a.2.1.map Form.row) 27 true)]) (fun a:Nat × (List Form) × Int=>a.1≤fu∧zbd a.1 x1 a.2.1 a.2.2=some r∧0≤a.2.2) (fu,([]:List Form),0) ⟨Nat.le_refl _,F0,by simp⟩ (by rfl) (by rfl) (fun _=>rfl) (zI (by conv=>lhs;whnf) (by rfl) (zI (by conv=>lhs;whnf) (by rfl) zaX)) (zL (by conv=>lhs;whnf) (by rfl) zaK) (zbZ hC rfl) (by repeat (first | exact z6 rfl | refine zal rfl ?_ | refine zQ rfl ?_)) (by repeat (first | exact zay | exact zad rfl | refine zam rfl ?_ | refine zR rfl ?_)) ?_
 clear F0
 rintro ⟨fu,g1,g2⟩ ⟨hl3,F1,hn_g2⟩
 dsimp only at hl3 F1 hn_g2 ⊢
 obtain _ | fu:=fu
 · rw [zbd] at F1;cases F1
 rw [zbd] at F1
 refine zb (za ?_)
 refine s_lt ?_
 refine zf (zd (zb ?_))
 refine zm F1 ?_ ?_<;>intro C4 F2
 refine zM 0 (fun B5=>?_)
 refine zi (zd (zb (zl (zb (za ?_)))))
 obtain ⟨v6,V6,F3⟩:=zc F2
 refine zK Form.row V6 (Form.row_eq _) yE25 ?_
 refine zai yA27 yS27 ?_
 refine zU yZ27 ?_
 refine zab yS27 ?_
 refine zf (zd (za ?_))
 refine s_mv ?_
 refine zG yA27 yS27 ?_
 obtain ⟨v7,V7,F4⟩:=zc F3
 refine zv [] (ih_m_spec_l15OwnForm fu (by omega) _ _ V7) ?_
 refine s_bs Form.row [v7] yP25 yR27 ?_
 obtain ⟨hk8,F5⟩:=zac F4
 refine zel Form.row (fun y=>Form.row_len y) hk8 yP25 ?_
 refine s_as ?_
 refine zf (zW (zd (za ?_)))
 refine zJ (zar C4 B5 hn_g2) ?_
 refine s_mv ?_
 refine zf ?_
 exact s_rn (fu,(g1++[v7]),(g2+1)) ⟨by first | omega | (dsimp only;omega),F5,by first | omega | (dsimp only;omega)⟩ [(5020,17)]
 refine zz (zq (zp (zr (zd (zb (za ?_))))))
 refine s_mv ?_
 refine s_as ?_
 refine zf (zd (zh (zn ?_)))
 cases F2
 exact zk [] [5020] Tryz.results168
theorem m_spec_l15OwnForm_all (fuel:Nat):zdv fuel∧zdj fuel:=by
 induction fuel using Nat.strongRecOn with
 | _ N ih =>
   cases N with
   | zero=>exact ⟨(by intro x1 r h;rw [zbr] at h;cases h),(by intro x1 r h;rw [zdb] at h;cases h)⟩
   | succ fu=>exact ⟨m_spec_l15OwnForm_st fu (fun k hk=>(ih k (by omega)).1) (fun k hk=>(ih k (by omega)).2),ziP fu (fun k hk=>(ih k (by omega)).1) (fun k hk=>(ih k (by omega)).2)⟩
theorem zhM (fuel:Nat):zdv fuel:=(m_spec_l15OwnForm_all fuel).1
def zgr (fuel:Nat):Prop:=∀ (x1:Form) (x2:Form) (r:Bool),zee fuel x1 x2=some r→AC Tryz.prog 197 [.ag [.t (.sc (.int .i64 x1.kind)),.t (.sc (.str x1.name)),.t (.sc (.int .i64 x1.n)),.t (.sl (x1.scopes.map rI)),.t (.sl (x1.kids.map Form.row))],.ag [.t (.sc (.int .i64 x2.kind)),.t (.sc (.str x2.name)),.t (.sc (.int .i64 x2.n)),.t (.sl (x2.scopes.map rI)),.t (.sl (x2.kids.map Form.row))]] noOb (.t (.sc (.bool r))) noOb
theorem m_spec_l5Uses_st (fu:Nat) (ih_m_spec_l5Uses:∀ k,k≤fu→zgr k):zgr (fu+1):=by
 intro x1 x2 r F0
 rw [zee] at F0
 refine AC_i [.t (.sc (.bool r))] Tryz.func197 rfl Tryz.ntmps197 ?_
 intro C hC
 refine zb (za ?_)
 refine zaN ?_
 refine zaN ?_
 refine s_as ?_
 refine zf (zd ?_)
 refine za2 (α:=Nat) [4,6,7,8,9,10,11,12,13] [] [] (fun a=>[]) (fun a=>[]) (fun a=>a≤fu∧zdo a x1 x2 =some r) ?_ ?_
 refine zb (za ?_)
 refine s_fa zc1 ?_
 refine zu yA3 ?_
 refine s_eq ?_
 refine s_mv ?_
 refine zo _ 9 F0 ?_ ?_<;>intro C1 F1
 refine zG yA27 yS27 ?_
 refine zG yA27 yS27 ?_
 obtain ⟨v2,V2,F2⟩:=zc F1
 refine zv [] (zfw fu _ _ _ V2) ?_
 refine zA ?_
 refine zf (zd ?_)
 refine zm F2 ?_ ?_<;>intro C3 F3
 refine zb (za ?_)
 refine s_as ?_
 refine zf (zd (zh (zex (zn ?_))))
 cases F3
 exact zk [] [] Tryz.results197
 refine zi ?_
 exact s_jn (fu) ⟨by first | omega | (dsimp only;omega),F3⟩
 iterate 3 refine r_no rfl ?_
 refine zy ?_
 refine zf (zd (zaZ rfl (zi ?_)))
 exact s_jn (fu) ⟨by first | omega | (dsimp only;omega),F1⟩
 clear F0
 rintro fu ⟨hl4,F1⟩
 obtain _ | fu:=fu
 · rw [zdo] at F1;cases F1
 rw [zdo] at F1
 refine zb (zb (za ?_))
 refine s_as ?_
 refine zf (zd (zl ?_))
 refine zaP (β:=Int) [4,5,14,15,16,17,18,19,20,21,22,23,24,25,26,27] [] [] (fun a=>[(5,.t (.sc (.int .i64 a.2)))]) (fun a=>[]) (fun a=>a.1≤fu∧zcA a.1 x1 x2 a.2=some r∧0≤a.2) (fu,0) ⟨Nat.le_refl _,F1,by simp⟩ ?_
 clear F1
 rintro ⟨fu,g5⟩ ⟨hl6,F2,hn_g5⟩
 dsimp only at hl6 F2 hn_g5 ⊢
 obtain _ | fu:=fu
 · rw [zcA] at F2;cases F2
 rw [zcA] at F2
 refine zb (zb (za ?_))
 refine s_mv ?_
 refine s_fa zF ?_
 refine zu yA25 ?_
 refine zC yU25 ?_
 refine s_lt ?_
 refine zf (zd ?_)
 refine zm F2 ?_ ?_<;>intro C7 F3
 refine zM 16 (fun B8=>?_)
 refine zi (zd (zb (zl (zb ?_))))
 refine zP yMix (by kernel_rfl) ?_
 refine s_fa zF ?_
 refine zu yA25 ?_
 refine s_mv ?_
 obtain ⟨v9,V9,F4⟩:=zc F3
 refine zK Form.row V9 (Form.row_eq _) yE25 ?_
 refine zai yA27 yS27 ?_
 refine zG yA27 yS27 ?_
 obtain ⟨v10,V10,F5⟩:=zc F4
 refine zv [] (ih_m_spec_l5Uses fu (by omega) _ _ _ V10) ?_
 refine zah (by kernel_rfl) ?_
 refine zd ?_
 refine zm F5 ?_ ?_<;>intro C11 F6
 refine zb (za ?_)
 refine s_as ?_
 refine zf (zd (zh (zj (zg (zw (zj (zg (zn ?_))))))))
 cases F6
 exact zk [] [] Tryz.results197
 refine zi (zW (zd (za ?_)))
 refine s_mv ?_
 refine zJ (zar C7 B8 hn_g5) ?_
 refine s_as ?_
 refine zf ?_
 exact s_rn (fu,(g5+1)) ⟨by first | omega | (dsimp only;omega),F6,by first | omega | (dsimp only;omega)⟩
 refine zz (zq (zp (zr (zd (zb (za ?_))))))
 refine s_as ?_
 refine zf (zd (zh (zn ?_)))
 cases F3
 exact zk [] [] Tryz.results197
theorem m_spec_l5Uses_all (fuel:Nat):zgr fuel:=by
 induction fuel using Nat.strongRecOn with
 | _ N ih =>
   cases N with
   | zero=>exact (by intro x1 x2 r h;rw [zee] at h;cases h)
   | succ fu=>exact m_spec_l5Uses_st fu (fun k hk=>(ih k (by omega)))
theorem m_spec_l5Uses_ok (fuel:Nat):zgr fuel:=(m_spec_l5Uses_all fuel)
def m_spec_l5Count_AC (fuel:Nat):Prop:=∀ (x1:Form) (x2:(List Hit)) (r:Int),zgb fuel x1 x2=some r→AC Tryz.prog 172 [.ag [.t (.sc (.int .i64 x1.kind)),.t (.sc (.str x1.name)),.t (.sc (.int .i64 x1.n)),.t (.sl (x1.scopes.map rI)),.t (.sl (x1.kids.map Form.row))],.t (.sl (x2.map Hit.row))] noOb (.t (.sc (.int .i64 r))) noOb
theorem m_spec_l5Count_ok (fuel:Nat):m_spec_l5Count_AC fuel:=by
 intro x1 x2 r F0
 unfold zgb at F0
 refine AC_i [.t (.sc (.int .i64 r))] Tryz.func172 rfl Tryz.ntmps172 ?_
 intro C hC
 refine zb (za ?_)
 refine zaN ?_
 refine s_as ?_
 refine zf (zd (zb (za ?_)))
 refine s_as ?_
 refine zf (zd (zb (zb (za ?_))))
 refine s_as ?_
 refine zf (zd (zl ?_))
 refine zaP (β:=Int × Int) [4,5,6,7,8,9,10,11,12,13,14,15,16,17,18,19,20,21,22,23,24,25,26,27,28,29,30,31,32,33,34,35,36,37,38,39,40,41,42,43,44,45,46] [] [] (fun a=>[(5,.t (.sc (.int .i64 a.2.2))),(6,.t (.sc (.int .i64 a.2.1)))]) (fun a=>[]) (fun a=>a.1≤fuel∧zbW a.1 x1 x2 a.2.1 a.2.2=some r∧0≤a.2.1) (fuel,0,(-1)) ⟨Nat.le_refl _,F0,by simp⟩ ?_
 clear F0
 rintro ⟨fu,g1,g2⟩ ⟨hl3,F1,hn_g1⟩
 dsimp only at hl3 F1 hn_g1 ⊢
 obtain _ | fu:=fu
 · rw [zbW] at F1;cases F1
 rw [zbW] at F1
 refine zb (zb (za ?_))
 refine s_mv ?_
 refine s_mv ?_
 refine zC yU30 ?_
 refine s_lt ?_
 refine zf (zd ?_)
 refine zm F1 ?_ ?_<;>intro C4 F2
 refine zM 1 (fun B5=>?_)
 refine zi (zd (zb (zl (zb ?_))))
 refine za2 (α:=Nat × Bool) [13,14,15,16,17,18,19,20,21,22,23,24,25,26,27,28] [] [] (fun a=>[(28,.t (.sc (.bool a.2)))]) (fun a=>[]) (fun a=>a.1≤fu∧zcl a.1 x1 x2 g1 g2 a.2=some r) ?_ ?_
 refine zP yMix (by kernel_rfl) ?_
 refine s_mv ?_
 refine s_mv ?_
 obtain ⟨v6,V6,F3⟩:=zc F2
 refine zK Hit.row V6 (Hit.row_eq _) yE30 ?_
 refine s_fa zhY ?_
 refine zu yA3 ?_
 refine s_eq ?_
 refine s_mv ?_
 refine zo _ 19 F3 ?_ ?_<;>intro C7 F4
 iterate 8 refine r_no rfl ?_
 refine zA ?_
 refine zah (by kernel_rfl) ?_
 exact s_jn (fu,true) ⟨by first | omega | (dsimp only;omega),F4⟩
 refine zG yA27 yS27 ?_
 refine s_mv ?_
 refine s_mv ?_
 obtain ⟨v8,V8,F5⟩:=zc F4
 refine zK Hit.row V8 (Hit.row_eq _) yE30 ?_
 refine s_fa ziF ?_
 refine zai yA27 yS27 ?_
 obtain ⟨v9,V9,F6⟩:=zc F5
 refine zv [] (m_spec_l5Uses_ok fu _ _ _ V9) ?_
 refine zaG ?_
 refine zy ?_
 refine zah (by kernel_rfl) ?_
 exact s_jn (fu,(!v9)) ⟨by first | omega | (dsimp only;omega),F6⟩
 clear F2
 rintro ⟨fu,g10⟩ ⟨hl11,F3⟩
 dsimp only at hl11 F3 ⊢
 obtain _ | fu:=fu
 · rw [zcl] at F3;cases F3
 rw [zcl] at F3
 refine zm F3 ?_ ?_<;>intro C12 F4
 refine zz (zq (zr (zd (za ?_))))
 refine s_mv ?_
 refine zJ (zar C4 B5 hn_g1) ?_
 refine s_as ?_
 refine zf ?_
 exact s_rn (fu,(g1+1),g2) ⟨by first | omega | (dsimp only;omega),F4,by first | omega | (dsimp only;omega)⟩
 refine zi (zd ?_)
 refine za2 (α:=Nat) [4,29,30,31,32,33,34,35,36,37,38,39,40] [] [] (fun a=>[]) (fun a=>[]) (fun a=>a≤fu∧zcQ a x1 x2 g1 =some r) ?_ ?_
 refine zb (za ?_)
 refine s_mv ?_
 refine s_ge ?_
 refine s_mv ?_
 refine zo _ 31 F4 ?_ ?_<;>intro C13 F5
 iterate 3 refine s_mv ?_
 obtain ⟨v14,V14,F6⟩:=zc F5
 refine zK Hit.row V14 (Hit.row_eq _) yE30 ?_
 refine s_fa ziE ?_
 refine zu yA30 ?_
 refine zC yU30 ?_
 refine s_ne ?_
 refine zA ?_
 refine zf (zd ?_)
 refine zm F6 ?_ ?_<;>intro C15 F7
 refine zb (za ?_)
 refine s_as ?_
 refine zf (zd (zh (zex (zj (zg (zw (zj (zg (zn ?_)))))))))
 cases F7
 exact zk [] [] Tryz.results172
 refine zi ?_
 exact s_jn (fu) ⟨by first | omega | (dsimp only;omega),F7⟩
 iterate 8 refine r_no rfl ?_
 refine zy ?_
 refine zf (zd (zaZ rfl (zi ?_)))
 exact s_jn (fu) ⟨by first | omega | (dsimp only;omega),F5⟩
 clear F4
 rintro fu ⟨hl16,F5⟩
 obtain _ | fu:=fu
 · rw [zcQ] at F5;cases F5
 rw [zcQ] at F5
 refine za ?_
 refine s_mv ?_
 refine s_mv ?_
 obtain ⟨v17,V17,F6⟩:=zc F5
 refine zK Hit.row V17 (Hit.row_eq _) yE30 ?_
 refine s_fa ziE ?_
 refine zu yA30 ?_
 refine zC yU30 ?_
 refine s_as ?_
 refine zf (zW (zd (za ?_)))
 refine s_mv ?_
 refine zJ (zar C4 B5 hn_g1) ?_
 refine s_as ?_
 refine zf ?_
 exact s_rn (fu,(g1+1),(v17.many.length:Int)) ⟨by first | omega | (dsimp only;omega),F6,by first | omega | (dsimp only;omega)⟩
 refine zz (zq (zp (zr (zd (zb (za ?_))))))
 refine s_mv ?_
 refine s_as ?_
 refine zf (zd (zh (zn ?_)))
 cases F2
 exact zk [] [] Tryz.results172
def m_spec_l5Nth_AC (fuel:Nat):Prop:=∀ (x1:Form) (x2:(List Hit)) (x3:Int) (r:(List Hit)),zgL fuel x1 x2 x3=some r→AC Tryz.prog 173 [.ag [.t (.sc (.int .i64 x1.kind)),.t (.sc (.str x1.name)),.t (.sc (.int .i64 x1.n)),.t (.sl (x1.scopes.map rI)),.t (.sl (x1.kids.map Form.row))],.t (.sl (x2.map Hit.row)),.t (.sc (.int .i64 x3))] noOb (.t (.sl (r.map Hit.row))) noOb
theorem m_spec_l5Nth_ok (fuel:Nat):m_spec_l5Nth_AC fuel:=by
 intro x1 x2 x3 r F0
 unfold zgL at F0
 refine AC_i [.t (.sl (r.map Hit.row))] Tryz.func173 rfl Tryz.ntmps173 ?_
 intro C hC
 refine zb (za ?_)
 refine zaN ?_
 refine s_as ?_
 refine zf (zd (zb (za ?_)))
 refine s_bs Hit.row ([]:List Hit) yP30 yR40 ?_
 refine s_as ?_
 refine zf (zd (zb (zb (za ?_))))
 refine s_as ?_
 refine zf (zd (zl ?_))
 refine zeI 7 10 5020 (by conv=>lhs;whnf) (by conv=>lhs;whnf) rfl ?_
 refine zak [7,8,9,11,12,13,14,15,16,17,18,19,20,21,22,23,24,25,26,27,28,29,30,31,32,33,34,35,36,37,38] [5020] [9,37,38] [5020] (fun a:Nat × (List Hit) × Int=>a.1) (fun a:Nat × (List Hit) × Int=>[(7,.ar 5020),(8,.t (.sc (.int .i64 a.2.2)))]) (fun a:Nat × (List Hit) × Int=>[(5020,.arr (a.2.1.map Hit.row) 40 true)]) (fun a:Nat × (List Hit) × Int=>a.1≤fuel∧zcr a.1 x1 x2 x3 a.2.1 a.2.2=some r∧0≤a.2.2) (fuel,([]:List Hit),0) ⟨Nat.le_refl _,F0,by simp⟩ (by rfl) (by rfl) (fun _=>rfl) (zI (by conv=>lhs;whnf) (by rfl) (zI (by conv=>lhs;whnf) (by rfl) zaX)) (zL (by conv=>lhs;whnf) (by rfl) zaK) (zbZ hC rfl) (by repeat (first | exact z6 rfl | refine zal rfl ?_ | refine zQ rfl ?_)) (by repeat (first | exact zay | exact zad rfl | refine zam rfl ?_ | refine zR rfl ?_)) ?_
 clear F0
 rintro ⟨fu,g1,g2⟩ ⟨hl3,F1,hn_g2⟩
 dsimp only at hl3 F1 hn_g2 ⊢
 obtain _ | fu:=fu
 · rw [zcr] at F1;cases F1
 rw [zcr] at F1
 refine zb (zb (za ?_))
 refine s_mv ?_
 refine s_mv ?_
 refine zC yU30 ?_
 refine s_lt ?_
 refine zf (zd ?_)
 refine zm F1 ?_ ?_<;>intro C4 F2
 refine zM 1 (fun B5=>?_)
 refine zi (zd (zb (zl (zb (za ?_)))))
 refine s_mv ?_
 refine s_mv ?_
 obtain ⟨v6,V6,F3⟩:=zc F2
 refine zK Hit.row V6 (Hit.row_eq _) yE30 ?_
 refine zai yA40 yS40 ?_
 refine zU yZ40 ?_
 refine zab yS40 ?_
 refine zf (zd (zb ?_))
 refine za2 (α:=Nat × Bool) [21,22,23,24,25,26,27,28,29] [] [] (fun a=>[(29,.t (.sc (.bool a.2)))]) (fun a=>[]) (fun a=>a.1≤fu∧zc7 a.1 x1 x2 x3 g1 g2 v6 a.2=some r) ?_ ?_
 refine za ?_
 refine s_fa zhY ?_
 refine zu yA3 ?_
 refine s_gt ?_
 refine s_mv ?_
 refine zo _ 24 F3 ?_ ?_<;>intro C7 F4
 refine zG yA27 yS27 ?_
 refine s_fa ziF ?_
 refine zai yA27 yS27 ?_
 obtain ⟨v8,V8,F5⟩:=zc F4
 refine zv [] (m_spec_l5Uses_ok fu _ _ _ V8) ?_
 refine zA ?_
 refine zf ?_
 exact s_jn (fu,v8) ⟨by first | omega | (dsimp only;omega),F5⟩
 iterate 4 refine r_no rfl ?_
 refine zy ?_
 refine zf ?_
 exact s_jn (fu,false) ⟨by first | omega | (dsimp only;omega),F4⟩
 clear F3
 rintro ⟨fu,g9⟩ ⟨hl10,F4⟩
 dsimp only at hl10 F4 ⊢
 obtain _ | fu:=fu
 · rw [zc7] at F4;cases F4
 rw [zc7] at F4
 refine zm F4 ?_ ?_<;>intro C11 F5
 refine za ?_
 refine s_fa ziE ?_
 refine zu yA30 ?_
 refine s_mv ?_
 obtain ⟨v12,V12,F6⟩:=zc F5
 refine zK Hit.row V12 (Hit.row_eq _) yE30 ?_
 refine zai yA40 yS40 ?_
 refine zab yS40 ?_
 refine zf (zd (za ?_))
 refine s_mv ?_
 refine zG yA40 yS40 ?_
 refine s_bs Hit.row [v12] yP30 yR40 ?_
 obtain ⟨hk13,F7⟩:=zac F6
 refine zel Hit.row (fun y=>Hit.row_len y) hk13 yP30 ?_
 refine s_as ?_
 refine zf (zW (zd (za ?_)))
 refine s_mv ?_
 refine zJ (zar C4 B5 hn_g2) ?_
 refine s_as ?_
 refine zf ?_
 exact s_rn (fu,(g1++[v12]),(g2+1)) ⟨by first | omega | (dsimp only;omega),F7,by first | omega | (dsimp only;omega)⟩ [(5020,38)]
 refine zi (zd (za ?_))
 refine s_mv ?_
 refine zG yA40 yS40 ?_
 refine s_bs Hit.row [v6] yP30 yR40 ?_
 obtain ⟨hk14,F6⟩:=zac F5
 refine zel Hit.row (fun y=>Hit.row_len y) hk14 yP30 ?_
 refine s_as ?_
 refine zf (zW (zd (za ?_)))
 refine s_mv ?_
 refine zJ (zar C4 B5 hn_g2) ?_
 refine s_as ?_
 refine zf ?_
 exact s_rn (fu,(g1++[v6]),(g2+1)) ⟨by first | omega | (dsimp only;omega),F6,by first | omega | (dsimp only;omega)⟩ [(5020,38)]
 refine zz (zq (zp (zr (zd (zb (za ?_))))))
 refine s_mv ?_
 refine s_as ?_
 refine zf (zd (zh (zn ?_)))
 cases F2
 exact zk [] [5020] Tryz.results173
def zgt (fuel:Nat):Prop:=∀ (x1:Form) (x2:(List Hit)) (r:(Form × Bool)),zdB fuel x1 x2=some r→AC Tryz.prog 113 [.ag [.t (.sc (.int .i64 x1.kind)),.t (.sc (.str x1.name)),.t (.sc (.int .i64 x1.n)),.t (.sl (x1.scopes.map rI)),.t (.sl (x1.kids.map Form.row))],.t (.sl (x2.map Hit.row))] noOb (.tp [.ag [.t (.sc (.int .i64 r.1.kind)),.t (.sc (.str r.1.name)),.t (.sc (.int .i64 r.1.n)),.t (.sl (r.1.scopes.map rI)),.t (.sl (r.1.kids.map Form.row))],.t (.sc (.bool r.2))]) noOb
theorem m_spec_l5Fill_st (fu:Nat) (ih_m_spec_l5Fill:∀ k,k≤fu→zgt k):zgt (fu+1):=by
 intro x1 x2 r F0
 rw [zdB] at F0
 refine AC_i [.ag [.t (.sc (.int .i64 r.1.kind)),.t (.sc (.str r.1.name)),.t (.sc (.int .i64 r.1.n)),.t (.sl (r.1.scopes.map rI)),.t (.sl (r.1.kids.map Form.row))],.t (.sc (.bool r.2))] Tryz.func113 rfl Tryz.ntmps113 ?_
 intro C hC
 refine zb (za ?_)
 refine zaN ?_
 refine zU yZ27 ?_
 refine s_as ?_
 refine zf (zd (zb (za ?_)))
 refine s_as ?_
 refine zf (zd ?_)
 refine za2 (α:=Nat × Int) [6,16,17,18,19,20,21] [] [] (fun a=>[(6,.t (.sc (.int .i64 a.2)))]) (fun a=>[]) (fun a=>a.1≤fu∧zcG a.1 x1 x2 a.2=some r) ?_ ?_
 refine zb (za ?_)
 refine s_fa zc1 ?_
 refine zu yA3 ?_
 refine s_eq ?_
 refine zf (zd ?_)
 refine zm F0 ?_ ?_<;>intro C1 F1
 refine za ?_
 refine s_mv ?_
 refine zG yA27 yS27 ?_
 obtain ⟨v2,V2,F2⟩:=zc F1
 refine zv [] (m_spec_l4Find_ok fu _ _ _ V2) ?_
 refine s_as ?_
 refine zf ?_
 exact s_jn (fu,v2) ⟨by first | omega | (dsimp only;omega),F2⟩
 refine zi ?_
 exact s_jn (fu,(-1)) ⟨by first | omega | (dsimp only;omega),F1⟩
 clear F0
 rintro ⟨fu,g3⟩ ⟨hl4,F1⟩
 dsimp only at hl4 F1 ⊢
 obtain _ | fu:=fu
 · rw [zcG] at F1;cases F1
 rw [zcG] at F1
 refine zb (zb (za ?_))
 refine s_mv ?_
 refine s_ge ?_
 refine zf (zd ?_)
 refine zm F1 ?_ ?_<;>intro C5 F2
 refine zb ?_
 refine zP yMix (by kernel_rfl) ?_
 refine s_mv ?_
 refine s_mv ?_
 obtain ⟨v6,V6,F3⟩:=zc F2
 refine zK Hit.row V6 (Hit.row_eq _) yE30 ?_
 refine s_fa yF40_2 ?_
 refine zai yA27 yS27 ?_
 obtain ⟨v7,V7,F4⟩:=zc F3
 refine z4 [(9203,2029),(9204,12029)] [] _ _ (zd6 fu _ _ V7) ?_
 refine s_mv ?_
 refine s_mv ?_
 obtain ⟨v8,V8,F5⟩:=zc F4
 refine zK Hit.row V8 (Hit.row_eq _) yE30 ?_
 refine s_fa zhY ?_
 refine zu yA3 ?_
 refine s_eq ?_
 refine zab yS27 ?_
 refine s_as ?_
 refine zah (by kernel_rfl) ?_
 refine zd (zh (zg (zn ?_)))
 cases F5
 exact zZ [] [2029,12029] (by rw [Tryz.results113];exact (zas (by conv=>lhs;whnf) (by conv=>lhs;whnf) yA27 yS27 rfl (zaj (by conv=>lhs;whnf) zae)))
 refine zi (zd (zb ?_))
 refine zP yMix (by kernel_rfl) ?_
 refine s_fa zc1 ?_
 refine zu yA3 ?_
 refine s_fa zcp ?_
 refine zu yA9 ?_
 refine s_fa zhu ?_
 refine zu yA3 ?_
 refine s_bs rI ([]:List Int) yP24 yR3 ?_
 refine s_fa zf9 ?_
 refine zu yA24 ?_
 obtain ⟨hk9,F3⟩:=zac F2
 refine zel rI (fun _=>rfl) hk9 yP24 ?_
 refine zgE yZ27 yL27 ?_
 refine zU yZ27 ?_
 refine zab yS27 ?_
 refine zah (by kernel_rfl) ?_
 refine zd (zb (za ?_))
 refine s_as ?_
 refine zf (zd (zb (zb (za ?_))))
 refine s_as ?_
 refine zf (zd (zl ?_))
 refine awp_ownB 7 5040 27 [.t (.sc (.int .i64 x1.kind)),.t (.sc (.str x1.name)),.t (.sc (.int .i64 x1.n)),.ar 45,.ar 5040] yI27.choose_spec ?_
 refine zak [5,8,9,10,11,12,13,14,15,47,48,49,50,51,52,53,54,55,56,57,58,59,60,61,62,63,64,65,66,67,68,69,70,71,72,73,74,75,76,77,78,79,80,81,82,83,84,85,86,87,88,89,90,91,92,93,94,95,96,97,98,99,100,101,102,103,104,105,106,107,108,109,110,111,112,113,114,115,116,117,118,119,120,121,122,123,124,125,126,127] [7,5040] [5100] [5040] (fun a:Nat × Int × Int × (List Form)=>a.1) (fun a:Nat × Int × Int × (List Form)=>[(5,.t (.sc (.bool false))),(8,.t (.sc (.int .i64 a.2.2.1))),(9,.t (.sc (.int .i64 a.2.1)))]) (fun a:Nat × Int × Int × (List Form)=>[(7,.box [.t (.sc (.int .i64 x1.kind)),.t (.sc (.str x1.name)),.t (.sc (.int .i64 x1.n)),.ar 45,.ar 5040]),(5040,.arr (a.2.2.2.map Form.row) 27 true)]) (fun a:Nat × Int × Int × (List Form)=>a.1≤fu∧zbR a.1 x1 x2 a.2.1 a.2.2.1 a.2.2.2=some r) (fu,0,0,([]:List Form)) ⟨Nat.le_refl _,F3⟩ (by rfl) (by rfl) (fun _=>rfl) (zI (by conv=>lhs;whnf) (by rfl) (zI (by conv=>lhs;whnf) (by rfl) (zI (by conv=>lhs;whnf) (by rfl) zaX))) (zL (by conv=>lhs;whnf) (by rfl) (zL (by conv=>lhs;whnf) (by rfl) zaK)) (zbZ hC rfl) (by repeat (first | exact z6 rfl | refine zal rfl ?_ | refine zQ rfl ?_)) (by repeat (first | exact zay | exact zad rfl | refine zam rfl ?_ | refine zR rfl ?_)) ?_
 clear F3
 rintro ⟨fu,g10,g11,g12⟩ ⟨hl13,F4⟩
 dsimp only at hl13 F4 ⊢
 obtain _ | fu:=fu
 · rw [zbR] at F4;cases F4
 rw [zbR] at F4
 refine zb (zb (za ?_))
 refine s_mv ?_
 refine s_fa zF ?_
 refine zu yA25 ?_
 refine zC yU25 ?_
 refine s_lt ?_
 refine zf (zd ?_)
 refine zm F4 ?_ ?_<;>intro C14 F5
 refine zM 49 (fun B15=>?_)
 refine zi (zd (zb (zl (zb (zb (za ?_))))))
 refine s_fa zF ?_
 refine zu yA25 ?_
 refine s_mv ?_
 obtain ⟨v16,V16,F6⟩:=zc F5
 refine zK Form.row V16 (Form.row_eq _) yE25 ?_
 refine zai yA27 yS27 ?_
 obtain ⟨v17,V17,F7⟩:=zc F6
 refine zv [] (zaR fu _ _ V17) ?_
 refine zf (zd ?_)
 refine zm F7 ?_ ?_<;>intro C18 F8
 refine zz (zq (zr (zd (za ?_))))
 refine s_mv ?_
 refine zJ (zar C14 B15 (zdF V16).1) ?_
 refine s_as ?_
 refine zf ?_
 exact s_rn (fu,(g10+1),g11,g12) ⟨by first | omega | (dsimp only;omega),F8⟩
 refine zi (zd (zb (za ?_)))
 refine s_as ?_
 refine zf (zd ?_)
 refine za2 (α:=Nat × Bool) [11,60,61,62,63,64,65,66,67,68,69,70,71,72,73,74] [] [] (fun a=>[(11,.t (.sc (.bool a.2)))]) (fun a=>[]) (fun a=>a.1≤fu∧zcF a.1 x1 x2 g10 g11 g12 a.2=some r) ?_ ?_
 refine za ?_
 refine s_mv ?_
 refine zJ (zar C14 B15 (zdF V16).1) ?_
 refine s_fa zF ?_
 refine zu yA25 ?_
 refine zC yU25 ?_
 refine s_lt ?_
 refine s_mv ?_
 refine zo _ 66 F8 ?_ ?_<;>intro C19 F9
 refine s_fa zF ?_
 refine zu yA25 ?_
 refine s_mv ?_
 refine zJ (zar C14 B15 (zdF V16).1) ?_
 obtain ⟨v20,V20,F10⟩:=zc F9
 refine zK Form.row V20 (Form.row_eq _) yE25 ?_
 refine zai yA27 yS27 ?_
 obtain ⟨v21,V21,F11⟩:=zc F10
 refine zv [] (zaR fu _ _ V21) ?_
 refine zA ?_
 refine s_as ?_
 refine zf ?_
 exact s_jn (fu,v21) ⟨by first | omega | (dsimp only;omega),F11⟩
 iterate 7 refine r_no rfl ?_
 refine zy ?_
 refine s_as ?_
 refine zf ?_
 exact s_jn (fu,false) ⟨by first | omega | (dsimp only;omega),F9⟩
 clear F8
 rintro ⟨fu,g22⟩ ⟨hl23,F9⟩
 dsimp only at hl23 F9 ⊢
 obtain _ | fu:=fu
 · rw [zcF] at F9;cases F9
 rw [zcF] at F9
 refine za2 (α:=Nat × Int) [10,75,76,77,78,79,80,81,82] [] [] (fun a=>[(10,.t (.sc (.int .i64 a.2)))]) (fun a=>[]) (fun a=>a.1≤fu∧zcE a.1 x1 x2 g10 g11 g12 g22 a.2=some r) ?_ ?_
 refine zb (za ?_)
 refine s_mv ?_
 refine zf (zd ?_)
 refine zm F9 ?_ ?_<;>intro C24 F10
 refine za ?_
 refine s_fa zF ?_
 refine zu yA25 ?_
 refine s_mv ?_
 obtain ⟨v25,V25,F11⟩:=zc F10
 refine zK Form.row V25 (Form.row_eq _) yE25 ?_
 refine zai yA27 yS27 ?_
 refine s_mv ?_
 obtain ⟨v26,V26,F12⟩:=zc F11
 refine zv [] (m_spec_l5Count_ok fu _ _ _ V26) ?_
 refine s_as ?_
 refine zf ?_
 exact s_jn (fu,v26) ⟨by first | omega | (dsimp only;omega),F12⟩
 refine zi ?_
 exact s_jn (fu,1) ⟨by first | omega | (dsimp only;omega),F10⟩
 clear F9
 rintro ⟨fu,g27⟩ ⟨hl28,F10⟩
 dsimp only at hl28 F10 ⊢
 obtain _ | fu:=fu
 · rw [zcE] at F10;cases F10
 rw [zcE] at F10
 refine zb (zb (za ?_))
 refine s_mv ?_
 refine s_lt ?_
 refine zf (zd ?_)
 refine zm F10 ?_ ?_<;>intro C29 F11
 refine zb (za ?_)
 refine zG yA27 yS27 ?_
 refine zab yS27 ?_
 refine s_as ?_
 refine zf (zd (zh (zg (zj (zg (zw (zj (zg (zn ?_)))))))))
 cases F11
 exact zZ [] [] (by rw [Tryz.results113];exact (zas (by conv=>lhs;whnf) (by conv=>lhs;whnf) yA27 yS27 rfl (zaj (by conv=>lhs;whnf) zae)))
 refine zi (zd (zb (za ?_)))
 refine s_as ?_
 refine zf (zd (zl ?_))
 refine zeV 7 5040 5100 [.t (.sc (.int .i64 x1.kind)),.t (.sc (.str x1.name)),.t (.sc (.int .i64 x1.n)),.ar 45,.ar 5100] ?_
 refine zak [5,8,12,13,14,15,86,87,88,89,90,91,92,93,94,95,96,97,98,99,100,101,102,103,104,105,106,107,108,109,110,111,112,113,114,115,116,117,118,119,120,121,122,123,124,125,126,127] [7,5100] [14,125,126] [5100] (fun a:Nat × Int × Int × (List Form)=>a.1) (fun a:Nat × Int × Int × (List Form)=>[(5,.t (.sc (.bool false))),(8,.t (.sc (.int .i64 a.2.1))),(12,.t (.sc (.int .i64 a.2.2.1)))]) (fun a:Nat × Int × Int × (List Form)=>[(7,.box [.t (.sc (.int .i64 x1.kind)),.t (.sc (.str x1.name)),.t (.sc (.int .i64 x1.n)),.ar 45,.ar 5100]),(5100,.arr (a.2.2.2.map Form.row) 27 true)]) (fun a:Nat × Int × Int × (List Form)=>a.1≤fu∧zcC a.1 x1 x2 g10 g22 g27 a.2.1 a.2.2.1 a.2.2.2=some r) (fu,g11,0,g12) ⟨Nat.le_refl _,F11⟩ (by rfl) (by rfl) (fun _=>rfl) (zI (by conv=>lhs;whnf) (by rfl) (zI (by conv=>lhs;whnf) (by rfl) (zI (by conv=>lhs;whnf) (by rfl) zaX))) (zL (by conv=>lhs;whnf) (by rfl) (zL (by conv=>lhs;whnf) (by rfl) zaK)) (zbZ hC rfl) (by repeat (first | exact z6 rfl | refine zal rfl ?_ | refine zQ rfl ?_)) (by repeat (first | exact zay | exact zad rfl | refine zam rfl ?_ | refine zR rfl ?_)) ?_
 clear F11
 rintro ⟨fu,g30,g31,g32⟩ ⟨hl33,F12⟩
 dsimp only at hl33 F12 ⊢
 obtain _ | fu:=fu
 · rw [zcC] at F12;cases F12
 rw [zcC] at F12
 refine zb (zb (za ?_))
 refine s_mv ?_
 refine s_mv ?_
 refine s_lt ?_
 refine zf (zd ?_)
 refine zm F12 ?_ ?_<;>intro C34 F13
 refine zi (zd (zb (zl (zb (za ?_)))))
 refine s_mv ?_
 refine s_as ?_
 refine zf (zd ?_)
 refine za2 (α:=Nat × (List Hit)) [13,92,93,94,95,96,97,98,99,100] [] [] (fun a=>[(13,.t (.sl (a.2.map Hit.row)))]) (fun a=>[]) (fun a=>a.1≤fu∧zdp a.1 x1 x2 g10 g22 g27 g30 g31 g32 a.2=some r) ?_ ?_
 refine zb (za ?_)
 refine s_mv ?_
 refine zf (zd ?_)
 refine zm F13 ?_ ?_<;>intro C35 F14
 refine za ?_
 refine s_fa zF ?_
 refine zu yA25 ?_
 refine s_mv ?_
 obtain ⟨v36,V36,F15⟩:=zc F14
 refine zK Form.row V36 (Form.row_eq _) yE25 ?_
 refine zai yA27 yS27 ?_
 refine s_mv ?_
 refine s_mv ?_
 obtain ⟨v37,V37,F16⟩:=zc F15
 refine zv [] (m_spec_l5Nth_ok fu _ _ _ _ V37) ?_
 refine s_as ?_
 refine zf ?_
 exact s_jn (fu,v37) ⟨by first | omega | (dsimp only;omega),F16⟩
 refine zi ?_
 exact s_jn (fu,x2) ⟨by first | omega | (dsimp only;omega),F14⟩
 clear F13
 rintro ⟨fu,g38⟩ ⟨hl39,F14⟩
 dsimp only at hl39 F14 ⊢
 obtain _ | fu:=fu
 · rw [zdp] at F14;cases F14
 rw [zdp] at F14
 refine zb (za ?_)
 refine s_fa zF ?_
 refine zu yA25 ?_
 refine s_mv ?_
 obtain ⟨v40,V40,F15⟩:=zc F14
 refine zK Form.row V40 (Form.row_eq _) yE25 ?_
 refine zai yA27 yS27 ?_
 refine s_mv ?_
 obtain ⟨v41,V41,F16⟩:=zc F15
 refine zv [] (ih_m_spec_l5Fill fu (by omega) _ _ _ V41) ?_
 refine s_mv ?_
 refine za4 ?_
 refine za4 ?_
 refine zU yZ27 ?_
 refine zab yS27 ?_
 refine s_as ?_
 refine zf (zd (zb (za ?_)))
 refine s_mv ?_
 refine zG yA27 yS27 ?_
 obtain ⟨v42,V42,F17⟩:=zc F16
 refine zv [] (ziM fu _ _ V42) ?_
 refine zJ rfl ?_
 refine s_as ?_
 refine zf (zd (zb ?_))
 refine za2 (α:=Nat × Bool) [115,116,117,118,119,120] [] [] (fun a=>[(120,.t (.sc (.bool a.2)))]) (fun a=>[]) (fun a=>a.1≤fu∧zcD a.1 x1 x2 g10 g22 g27 g30 g31 g32 v41 v42 a.2=some r) ?_ ?_
 refine za ?_
 refine s_mv ?_
 refine zaG ?_
 refine s_mv ?_
 refine zo _ 117 F17 ?_ ?_<;>intro C43 F18
 refine r_no rfl (r_no rfl ?_)
 refine zA ?_
 refine zf ?_
 exact s_jn (fu,true) ⟨by first | omega | (dsimp only;omega),F18⟩
 refine s_mv ?_
 refine s_gt ?_
 refine zy ?_
 refine zf ?_
 exact s_jn (fu,(decide (400 < (w64 (g30+v42))))) ⟨by first | omega | (dsimp only;omega),F18⟩
 clear F17
 rintro ⟨fu,g44⟩ ⟨hl45,F18⟩
 dsimp only at hl45 F18 ⊢
 obtain _ | fu:=fu
 · rw [zcD] at F18;cases F18
 rw [zcD] at F18
 refine zm F18 ?_ ?_<;>intro C46 F19
 refine zb (za ?_)
 refine zG yA27 yS27 ?_
 refine zab yS27 ?_
 refine s_as ?_
 refine zf (zd (zh (zg (zj (zg (zw (zj (zj (zg (zw (zj (zg (zn ?_)))))))))))))
 cases F19
 exact zZ [] [] (by rw [Tryz.results113];exact (zas (by conv=>lhs;whnf) (by conv=>lhs;whnf) yA27 yS27 rfl (zaj (by conv=>lhs;whnf) zae)))
 refine zi (zd (za ?_))
 refine s_fa zF ?_
 refine zu yA25 ?_
 refine zG yA27 yS27 ?_
 refine s_bs Form.row [v41.1] yP25 yR27 ?_
 obtain ⟨hk47,F20⟩:=zac F19
 refine zel Form.row (fun y=>Form.row_len y) hk47 yP25 ?_
 refine s_fa zF ?_
 refine zii yS25 ?_
 refine zf (zW (zd (za ?_)))
 refine s_mv ?_
 refine zJ rfl ?_
 refine s_as ?_
 refine zf ?_
 exact s_rn (fu,(w64 (g30+v42)),(w64 (g31+1)),(g32++[v41.1])) ⟨by first | omega | (dsimp only;omega),F20⟩ [(5100,126)]
 refine zz (zq (zp (zr (zW (zd (za ?_))))))
 refine s_mv ?_
 refine zJ rfl ?_
 refine s_as ?_
 refine zf ?_
 exact s_rn (fu,(w64 (g10+1)),g30,g32) ⟨by first | omega | (dsimp only;omega),F13⟩ [(5040,5100)]
 refine zz (zq (zp (zr (zd (zb (za ?_))))))
 refine zG yA27 yS27 ?_
 refine zab yS27 ?_
 refine s_as ?_
 refine zf (zd (zh (zn ?_)))
 cases F5
 exact zZ [] [45,5040] (by rw [Tryz.results113];exact (zas (by conv=>lhs;whnf) (by conv=>lhs;whnf) yA27 yS27 rfl (zaj (by conv=>lhs;whnf) zae)))
end Go.Abs
