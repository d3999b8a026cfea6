/- A part of the proof: what the functions that the law calls answer, as pure values. -/
import Derived.Test.YtjjjnhpghhamkaaGreatKc0fe836f7e33
import Derived.Test.YtjjjnhpghhamkaaGreatK8d582f2e31e6
import Derived.Test.YtjjjnhpghhamkaaGreatK23e9ef529b2a
import Derived.Test.YtjjjnhpghhamkaaGreatK0782c27d5cbf
import Derived.Test.YtjjjnhpghhamkaaGreatK06634278733b
import Derived.Test.YtjjjnhpghhamkaaGreatK8faf616840a9
import Derived.Test.YtjjjnhpghhamkaaGreatK48decf646e3b
set_option linter.unusedSimpArgs false
set_option linter.unusedVariables false
set_option maxRecDepth 100000
set_option maxHeartbeats 4000000
namespace Go.Abs
open Go.Proofs
def zg4 (fuel:Nat):Prop:=∀ (x1:(List Hit)) (o1:Form) (r:Int),zbk fuel x1 o1=some r→AC Tryz.prog 149 [.t (.sl (x1.map Hit.row)),.fn 150 [.rf 9000 0]] (objs [(9000,.box [.t (.sc (.int .i64 o1.kind)),.t (.sc (.str o1.name)),.t (.sc (.int .i64 o1.n)),.t (.sl (o1.scopes.map rI)),.t (.sl (o1.kids.map Form.row))])]) (.t (.sc (.int .i64 r))) (objs [(9000,.box [.t (.sc (.int .i64 o1.kind)),.t (.sc (.str o1.name)),.t (.sc (.int .i64 o1.n)),.t (.sl (o1.scopes.map rI)),.t (.sl (o1.kids.map Form.row))])])
theorem zg3 (fuel:Nat):zg4 fuel:=by
 intro x1 o1 r F0
 unfold zbk at F0
 refine AC_i [.t (.sc (.int .i64 r))] Tryz.func149 rfl Tryz.ntmps149 ?_
 intro C hC
 refine zb (za ?_)
 refine s_as ?_
 refine zf (zd (zb (zb (za ?_))))
 refine s_mv ?_
 refine zC yU30 ?_
 refine s_mv ?_
 refine zf (zd (zl ?_))
 refine zaP (β:=Int) [4,5,8,9,10,11,12,13,14,15,16,17,18] [] [] (fun a=>[(8,.t (.sc (.int .i64 a.2)))]) (fun a=>[]) (fun a=>a.1≤fuel∧zX a.1 x1 o1 a.2=some r∧0≤a.2) (fuel,0) ⟨Nat.le_refl _,F0,by simp⟩ ?_
 clear F0
 rintro ⟨fu,g1⟩ ⟨hl2,F1,hn_g1⟩
 dsimp only at hl2 F1 hn_g1 ⊢
 obtain _ | fu:=fu
 · rw [zX] at F1;cases F1
 rw [zX] at F1
 refine zb (za ?_)
 refine s_lt ?_
 refine zf (zd (zb ?_))
 refine zm F1 ?_ ?_<;>intro C3 F2
 refine zM 0 (fun B4=>?_)
 refine zi (zd (zb (zl (zb (za ?_)))))
 refine s_mv ?_
 refine s_as ?_
 refine zf (zd (zb (za ?_)))
 iterate 3 refine s_mv ?_
 obtain ⟨v5,V5,F3⟩:=zc F2
 refine zK Hit.row V5 (Hit.row_eq _) yE30 ?_
 refine zai yA40 yS40 ?_
 obtain ⟨v6,V6,F4⟩:=zc F3
 refine z4 [(9000,9000)] [] _ _ (m_impl_hitAt_1_ok fu _ _ _ V6) ?_
 refine zf (zd ?_)
 refine zm F4 ?_ ?_<;>intro C7 F5
 refine zb (za ?_)
 refine s_mv ?_
 refine s_as ?_
 refine zf (zd (zh (zj (zg (zw (zj (zg (zn ?_))))))))
 cases F5
 exact zk _ [] Tryz.results149
 refine zi (zW (zd (za ?_)))
 refine zJ (zar C3 B4 hn_g1) ?_
 refine s_mv ?_
 refine zf ?_
 exact s_rn (fu,(g1+1)) ⟨by first | omega | (dsimp only;omega),F5,by first | omega | (dsimp only;omega)⟩
 refine zz (zq (zp (zr (zd (zb (za ?_))))))
 refine s_as ?_
 refine zf (zd (zh (zn ?_)))
 cases F2
 exact zk _ [] Tryz.results149
def m_impl_hitAt_AC (fuel:Nat):Prop:=∀ (x1:(List Hit)) (x2:Form) (r:Int),zfT fuel x1 x2=some r→AC Tryz.prog 86 [.t (.sl (x1.map Hit.row)),.ag [.t (.sc (.int .i64 x2.kind)),.t (.sc (.str x2.name)),.t (.sc (.int .i64 x2.n)),.t (.sl (x2.scopes.map rI)),.t (.sl (x2.kids.map Form.row))]] noOb (.t (.sc (.int .i64 r))) noOb
theorem m_impl_hitAt_ok (fuel:Nat):m_impl_hitAt_AC fuel:=by
 intro x1 x2 r F0
 unfold zfT at F0
 refine AC_i [.t (.sc (.int .i64 r))] Tryz.func86 rfl Tryz.ntmps86 ?_
 intro C hC
 refine zb (za ?_)
 refine zaN ?_
 refine s_as ?_
 refine zf (zd (zb (za ?_)))
 refine s_mv ?_
 refine s_fn ?_
 obtain ⟨v1,V1,F1⟩:=zc F0
 refine z4 [(9000,3)] [] _ _ (zg3 fuel _ _ _ V1) ?_
 refine s_as ?_
 refine zf (zd (zh (zn ?_)))
 cases F1
 exact zk [] [] Tryz.results86
def m_impl_HitsValid_AC (fuel:Nat):Prop:=∀ (x1:(List Hit)) (r:Bool),zfl fuel x1=some r→AC Tryz.prog 25 [.t (.sl (x1.map Hit.row))] noOb (.t (.sc (.bool r))) noOb
theorem m_impl_HitsValid_ok (fuel:Nat):m_impl_HitsValid_AC fuel:=by
 intro x1 r F0
 unfold zfl at F0
 refine AC_i [.t (.sc (.bool r))] Tryz.func25 rfl Tryz.ntmps25 ?_
 intro C hC
 refine zb (za ?_)
 refine s_as ?_
 refine zf (zd (zb (zb (za ?_))))
 refine s_mv ?_
 refine zC yU30 ?_
 refine s_mv ?_
 refine zf (zd (zl ?_))
 refine zaP (β:=Int) [2,3,4,7,8,9,10,11,12,13,14,15,16,17,18,19,20,21,22,23,24] [] [4] (fun a=>[(7,.t (.sc (.int .i64 a.2)))]) (fun a=>[]) (fun a=>a.1≤fuel∧zbN a.1 x1 a.2=some r∧0≤a.2) (fuel,0) ⟨Nat.le_refl _,F0,by simp⟩ ?_
 clear F0
 rintro ⟨fu,g1⟩ ⟨hl2,F1,hn_g1⟩
 dsimp only at hl2 F1 hn_g1 ⊢
 obtain _ | fu:=fu
 · rw [zbN] at F1;cases F1
 rw [zbN] at F1
 refine zb (za ?_)
 refine s_lt ?_
 refine zf (zd (zb ?_))
 refine zm F1 ?_ ?_<;>intro C3 F2
 refine zM 0 (fun B4=>?_)
 refine zi (zd (zb (zl (zb (za ?_)))))
 refine s_mv ?_
 obtain ⟨v5,V5,F3⟩:=zc F2
 refine zK Hit.row V5 (Hit.row_eq _) yE30 ?_
 refine zai yA40 yS40 ?_
 refine zU yZ40 ?_
 refine s_as ?_
 refine zab yS40 ?_
 refine zf (zd (zb ?_))
 refine zP yMix (by kernel_rfl) ?_
 refine zG yA40 yS40 ?_
 obtain ⟨v6,V6,F4⟩:=zc F3
 refine zv [] (m_impl_hitOk_ok fu _ _ V6) ?_
 refine zaG ?_
 refine s_mv ?_
 refine zo _ 15 F4 ?_ ?_<;>intro C7 F5
 iterate 7 refine r_no rfl ?_
 refine zA ?_
 refine zah (by kernel_rfl) ?_
 refine zd (zT rfl (zb (za ?_)))
 refine s_as ?_
 refine zf (zd (zh (zj (zg (zw (zj (zg (zn ?_))))))))
 cases F5
 exact zk [] [] Tryz.results25
 refine s_mv ?_
 refine s_mv ?_
 obtain ⟨v8,V8,F6⟩:=zc F5
 refine s_sl01 Hit.row (fun y=>Hit.row_len y) V8 yU30 yE30 ?_
 refine s_fa ziF ?_
 refine zai yA27 yS27 ?_
 obtain ⟨v9,V9,F7⟩:=zc F6
 refine zv [] (m_impl_hitAt_ok fu _ _ _ V9) ?_
 refine s_ge ?_
 refine zy ?_
 refine zah (by kernel_rfl) ?_
 refine zd ?_
 refine zm F7 ?_ ?_<;>intro C10 F8
 refine zb (za ?_)
 refine s_as ?_
 refine zf (zd (zh (zj (zg (zw (zj (zg (zn ?_))))))))
 cases F8
 exact zk [] [] Tryz.results25
 refine zi (zW (zd (za ?_)))
 refine zJ (zar C3 B4 hn_g1) ?_
 refine s_mv ?_
 refine zf ?_
 exact s_rn (fu,(g1+1)) ⟨by first | omega | (dsimp only;omega),F8,by first | omega | (dsimp only;omega)⟩
 refine zz (zq (zp (zr (zd (zb (za ?_))))))
 refine s_mv ?_
 refine zC yU30 ?_
 refine s_le ?_
 refine s_as ?_
 refine zf (zd (zh (zn ?_)))
 cases F2
 exact zk [] [] Tryz.results25
def m_spec_l5Shape_AC (fuel:Nat):Prop:=∀ (x1:Form) (x2:(List Form)) (r:(List Hit)),zga fuel x1 x2=some r→AC Tryz.prog 190 [.ag [.t (.sc (.int .i64 x1.kind)),.t (.sc (.str x1.name)),.t (.sc (.int .i64 x1.n)),.t (.sl (x1.scopes.map rI)),.t (.sl (x1.kids.map Form.row))],.t (.sl (x2.map Form.row))] noOb (.t (.sl (r.map Hit.row))) noOb
theorem m_spec_l5Shape_ok (fuel:Nat):m_spec_l5Shape_AC fuel:=by
 intro x1 x2 r F0
 unfold zga at F0
 refine AC_i [.t (.sl (r.map Hit.row))] Tryz.func190 rfl Tryz.ntmps190 ?_
 intro C hC
 refine zb (za ?_)
 refine zaN ?_
 refine s_as ?_
 refine zf (zd (zb (za ?_)))
 refine s_bs Hit.row ([]:List Hit) yP30 yR40 ?_
 refine s_as ?_
 refine zf (zd (zb (za ?_)))
 refine s_bs Form.row ([]:List Form) yP25 yR27 ?_
 refine zG yA27 yS27 ?_
 refine s_mv ?_
 obtain ⟨v1,V1,F1⟩:=zc F0
 refine z4 [(9300,11),(9200,12014)] [] _ _ (zhG fuel _ _ _ _ V1) ?_
 refine s_as ?_
 refine zf (zd (zb (za ?_)))
 refine s_bs rI ([]:List Int) yP24 yR3 ?_
 refine zG yA27 yS27 ?_
 refine s_mv ?_
 obtain ⟨v2,V2,F2⟩:=zc F1
 refine z4 [(9300,15),(9200,12018)] [] _ _ (zgX fuel _ _ _ _ _ V2) ?_
 refine s_as ?_
 refine zf (zd (zb (zb (za ?_))))
 refine s_as ?_
 refine zf (zd (zl ?_))
 refine zeI 5 10 5020 (by conv=>lhs;whnf) (by conv=>lhs;whnf) rfl ?_
 refine zak [5,8,9,19,20,21,22,23,24,25,26,27,28,29,30,31,32,33,34,35,36,37,38,39,40,41,42,43,44,45] [5020] [9,44,45] [5020] (fun a:Nat × (List Hit) × Int=>a.1) (fun a:Nat × (List Hit) × Int=>[(5,.ar 5020),(8,.t (.sc (.int .i64 a.2.2)))]) (fun a:Nat × (List Hit) × Int=>[(5020,.arr (a.2.1.map Hit.row) 40 true)]) (fun a:Nat × (List Hit) × Int=>a.1≤fuel∧zbV a.1 v1 v2 a.2.1 a.2.2=some r∧0≤a.2.2) (fuel,([]:List Hit),0) ⟨Nat.le_refl _,F2,by simp⟩ (by rfl) (by rfl) (fun _=>rfl) (zI (by conv=>lhs;whnf) (by rfl) (zI (by conv=>lhs;whnf) (by rfl) zaX)) (zL (by conv=>lhs;whnf) (by rfl) zaK) (zbZ hC rfl) (by repeat (first | exact z6 rfl | refine zal rfl ?_ | refine zQ rfl ?_)) (by repeat (first | exact zay | exact zad rfl | refine zam rfl ?_ | refine zR rfl ?_)) ?_
 clear F2
 rintro ⟨fu,g3,g4⟩ ⟨hl5,F3,hn_g4⟩
 dsimp only at hl5 F3 hn_g4 ⊢
 obtain _ | fu:=fu
 · rw [zbV] at F3;cases F3
 rw [zbV] at F3
 refine zb (zb (za ?_))
 refine s_mv ?_
 refine s_mv ?_
 refine zhc yU25 ?_
 refine s_lt ?_
 refine zf (zd ?_)
 refine zm F3 ?_ ?_<;>intro C6 F4
 refine ziw 6 12014 (fun B7=>?_)
 refine zi (zd (zb (zl (zb ?_))))
 refine zP yMix (by kernel_rfl) ?_
 refine s_mv ?_
 refine s_mv ?_
 obtain ⟨v8,V8,F5⟩:=zc F4
 refine ziy Form.row V8 yE25 ?_
 refine s_lAN Form.row V8 (Form.row_eq _) yA27 yS27 ?_
 refine s_mv ?_
 refine s_mv ?_
 obtain ⟨v9,V9,F6⟩:=zc F5
 refine ziy rI V9 yE24 ?_
 refine s_lA1 rI V9 rfl yA3 ?_
 refine zgE yZ40 yL40 ?_
 refine zU yZ40 ?_
 refine zab yS40 ?_
 refine zah (by kernel_rfl) ?_
 refine zd (zb (zb (za ?_)))
 refine s_fa zhY ?_
 refine zu yA3 ?_
 refine s_eq ?_
 refine zf (zd ?_)
 refine zm F6 ?_ ?_<;>intro C10 F7
 refine za ?_
 refine s_mv ?_
 refine s_mv ?_
 obtain ⟨v11,V11,F8⟩:=zc F7
 refine ziy Form.row V11 yE25 ?_
 refine s_lAN Form.row V11 (Form.row_eq _) yA27 yS27 ?_
 refine s_fa yF40_2 ?_
 refine zii yS27 ?_
 refine zf (zd (za ?_))
 refine s_mv ?_
 refine zG yA40 yS40 ?_
 refine s_bs Hit.row [(Hit.mk v8 v9 v11 ([]:List Hit))] yP30 yR40 ?_
 obtain ⟨hk12,F9⟩:=zac F8
 refine zel Hit.row (fun y=>Hit.row_len y) hk12 yP30 ?_
 refine s_as ?_
 refine zf (zW (zd (za ?_)))
 refine s_mv ?_
 refine zJ (zar C6 B7 hn_g4) ?_
 refine s_as ?_
 refine zf ?_
 exact s_rn (fu,(g3++[(Hit.mk v8 v9 v11 ([]:List Hit))]),(g4+1)) ⟨by first | omega | (dsimp only;omega),F9,by first | omega | (dsimp only;omega)⟩ [(5020,45)]
 refine zi (zd (za ?_))
 refine s_mv ?_
 refine zG yA40 yS40 ?_
 refine s_bs Hit.row [(Hit.mk v8 v9 (Form.mk 0 (⟨#[]⟩:ByteArray) 0 ([]:List Int) ([]:List Form)) ([]:List Hit))] yP30 yR40 ?_
 obtain ⟨hk13,F8⟩:=zac F7
 refine zel Hit.row (fun y=>Hit.row_len y) hk13 yP30 ?_
 refine s_as ?_
 refine zf (zW (zd (za ?_)))
 refine s_mv ?_
 refine zJ (zar C6 B7 hn_g4) ?_
 refine s_as ?_
 refine zf ?_
 exact s_rn (fu,(g3++[(Hit.mk v8 v9 (Form.mk 0 (⟨#[]⟩:ByteArray) 0 ([]:List Int) ([]:List Form)) ([]:List Hit))]),(g4+1)) ⟨by first | omega | (dsimp only;omega),F8,by first | omega | (dsimp only;omega)⟩ [(5020,45)]
 refine zz (zq (zp (zr (zd (zb (za ?_))))))
 refine s_mv ?_
 refine s_as ?_
 refine zf (zd (zh (zn ?_)))
 cases F4
 exact zk [] [5020] Tryz.results190
def m_spec_l4Find_AC (fuel:Nat):Prop:=∀ (x1:(List Hit)) (x2:Form) (r:Int),zeN fuel x1 x2=some r→AC Tryz.prog 171 [.t (.sl (x1.map Hit.row)),.ag [.t (.sc (.int .i64 x2.kind)),.t (.sc (.str x2.name)),.t (.sc (.int .i64 x2.n)),.t (.sl (x2.scopes.map rI)),.t (.sl (x2.kids.map Form.row))]] noOb (.t (.sc (.int .i64 r))) noOb
theorem m_spec_l4Find_ok (fuel:Nat):m_spec_l4Find_AC fuel:=by
 intro x1 x2 r F0
 unfold zeN at F0
 refine AC_i [.t (.sc (.int .i64 r))] Tryz.func171 rfl Tryz.ntmps171 ?_
 intro C hC
 refine zb (za ?_)
 refine zaN ?_
 refine s_as ?_
 refine zf (zd (zb (zb (za ?_))))
 refine s_as ?_
 refine zf (zd (zl ?_))
 refine zaP (β:=Int) [4,5,6,7,8,9,10,11,12,13,14,15,16,17,18,19] [] [] (fun a=>[(5,.t (.sc (.int .i64 a.2)))]) (fun a=>[]) (fun a=>a.1≤fuel∧zcc a.1 x1 x2 a.2=some r∧0≤a.2) (fuel,0) ⟨Nat.le_refl _,F0,by simp⟩ ?_
 clear F0
 rintro ⟨fu,g1⟩ ⟨hl2,F1,hn_g1⟩
 dsimp only at hl2 F1 hn_g1 ⊢
 obtain _ | fu:=fu
 · rw [zcc] at F1;cases F1
 rw [zcc] at F1
 refine zb (zb (za ?_))
 refine s_mv ?_
 refine s_mv ?_
 refine zC yU30 ?_
 refine s_lt ?_
 refine zf (zd ?_)
 refine zm F1 ?_ ?_<;>intro C3 F2
 refine zM 0 (fun B4=>?_)
 refine zi (zd (zb (zl (zb ?_))))
 refine zP yMix (by kernel_rfl) ?_
 refine s_mv ?_
 refine s_mv ?_
 obtain ⟨v5,V5,F3⟩:=zc F2
 refine zK Hit.row V5 (Hit.row_eq _) yE30 ?_
 refine s_fa ziF ?_
 refine zai yA27 yS27 ?_
 refine zG yA27 yS27 ?_
 obtain ⟨v6,V6,F4⟩:=zc F3
 refine zv [] (zfw fu _ _ _ V6) ?_
 refine zah (by kernel_rfl) ?_
 refine zd ?_
 refine zm F4 ?_ ?_<;>intro C7 F5
 refine zb (za ?_)
 refine s_mv ?_
 refine s_as ?_
 refine zf (zd (zh (zj (zg (zw (zj (zg (zn ?_))))))))
 cases F5
 exact zk [] [] Tryz.results171
 refine zi (zW (zd (za ?_)))
 refine s_mv ?_
 refine zJ (zar C3 B4 hn_g1) ?_
 refine s_as ?_
 refine zf ?_
 exact s_rn (fu,(g1+1)) ⟨by first | omega | (dsimp only;omega),F5,by first | omega | (dsimp only;omega)⟩
 refine zz (zq (zp (zr (zd (zb (za ?_))))))
 refine s_as ?_
 refine zf (zd (zh (zn ?_)))
 cases F2
 exact zk [] [] Tryz.results171
def m_spec_l5Depth_AC (fuel:Nat):Prop:=∀ (x1:(List Hit)) (x2:Form) (r:Int),zfp fuel x1 x2=some r→AC Tryz.prog 194 [.t (.sl (x1.map Hit.row)),.ag [.t (.sc (.int .i64 x2.kind)),.t (.sc (.str x2.name)),.t (.sc (.int .i64 x2.n)),.t (.sl (x2.scopes.map rI)),.t (.sl (x2.kids.map Form.row))]] noOb (.t (.sc (.int .i64 r))) noOb
theorem ziK (fuel:Nat):m_spec_l5Depth_AC fuel:=by
 intro x1 x2 r F0
 unfold zfp at F0
 refine AC_i [.t (.sc (.int .i64 r))] Tryz.func194 rfl Tryz.ntmps194 ?_
 intro C hC
 refine zb (za ?_)
 refine zaN ?_
 refine s_as ?_
 refine zf (zd (zb (zb (za ?_))))
 refine s_fa zc1 ?_
 refine zu yA3 ?_
 refine s_ne ?_
 refine zf (zd ?_)
 refine zm F0 ?_ ?_<;>intro C1 F1
 refine zb (za ?_)
 refine s_as ?_
 refine zf (zd (zh (zg (zn ?_))))
 cases F1
 exact zk [] [] Tryz.results194
 refine zi (zd (zb (za ?_)))
 refine s_mv ?_
 refine zG yA27 yS27 ?_
 obtain ⟨v2,V2,F2⟩:=zc F1
 refine zv [] (m_spec_l4Find_ok fuel _ _ _ V2) ?_
 refine s_as ?_
 refine zf (zd (zb (zb (za ?_))))
 refine s_mv ?_
 refine s_lt ?_
 refine zf (zd ?_)
 refine zm F2 ?_ ?_<;>intro C3 F3
 refine zb (za ?_)
 refine s_as ?_
 refine zf (zd (zh (zg (zn ?_))))
 cases F3
 exact zk [] [] Tryz.results194
 refine zi (zd (zb (za ?_)))
 refine s_mv ?_
 refine s_mv ?_
 obtain ⟨v4,V4,F4⟩:=zc F3
 refine zK Hit.row V4 (Hit.row_eq _) yE30 ?_
 refine s_fa zhY ?_
 refine zu yA3 ?_
 refine s_as ?_
 refine zf (zd (zh (zn ?_)))
 cases F4
 exact zk [] [] Tryz.results194
def zgs (fuel:Nat):Prop:=∀ (x1:(List Hit)) (x2:Form) (r:Bool),zeM fuel x1 x2=some r→AC Tryz.prog 195 [.t (.sl (x1.map Hit.row)),.ag [.t (.sc (.int .i64 x2.kind)),.t (.sc (.str x2.name)),.t (.sc (.int .i64 x2.n)),.t (.sl (x2.scopes.map rI)),.t (.sl (x2.kids.map Form.row))]] noOb (.t (.sc (.bool r))) noOb
theorem m_spec_l5Rows_st (fu:Nat) (ih_m_spec_l5Rows:∀ k,k≤fu→zgs k):zgs (fu+1):=by
 intro x1 x2 r F0
 rw [zeM] at F0
 refine AC_i [.t (.sc (.bool r))] Tryz.func195 rfl Tryz.ntmps195 ?_
 intro C hC
 refine zb (za ?_)
 refine zaN ?_
 refine s_as ?_
 refine zf (zd (zb (zb (za ?_))))
 refine s_mv ?_
 refine zG yA27 yS27 ?_
 obtain ⟨v1,V1,F1⟩:=zc F0
 refine zv [] (ziK fu _ _ _ V1) ?_
 refine s_gt ?_
 refine zf (zd ?_)
 refine zm F1 ?_ ?_<;>intro C2 F2
 refine zb (za ?_)
 refine s_as ?_
 refine zf (zd (zh (zg (zn ?_))))
 cases F2
 exact zk [] [] Tryz.results195
 refine zi (zd (zb (zb (za ?_))))
 refine s_as ?_
 refine zf (zd (zl ?_))
 refine zaP (β:=Int) [4,5,10,11,12,13,14,15,16,17,18,19,20,21,22,23] [] [] (fun a=>[(5,.t (.sc (.int .i64 a.2)))]) (fun a=>[]) (fun a=>a.1≤fu∧zcB a.1 x1 x2 a.2=some r∧0≤a.2) (fu,0) ⟨Nat.le_refl _,F2,by simp⟩ ?_
 clear F2
 rintro ⟨fu,g3⟩ ⟨hl4,F3,hn_g3⟩
 dsimp only at hl4 F3 hn_g3 ⊢
 obtain _ | fu:=fu
 · rw [zcB] at F3;cases F3
 rw [zcB] at F3
 refine zb (zb (za ?_))
 refine s_mv ?_
 refine s_fa zF ?_
 refine zu yA25 ?_
 refine zC yU25 ?_
 refine s_lt ?_
 refine zf (zd ?_)
 refine zm F3 ?_ ?_<;>intro C5 F4
 refine zM 12 (fun B6=>?_)
 refine zi (zd (zb (zl (zb (za ?_)))))
 refine s_mv ?_
 refine s_fa zF ?_
 refine zu yA25 ?_
 refine s_mv ?_
 obtain ⟨v7,V7,F5⟩:=zc F4
 refine zK Form.row V7 (Form.row_eq _) yE25 ?_
 refine zai yA27 yS27 ?_
 obtain ⟨v8,V8,F6⟩:=zc F5
 refine zv [] (ih_m_spec_l5Rows fu (by omega) _ _ _ V8) ?_
 refine zf (zd ?_)
 refine zm F6 ?_ ?_<;>intro C9 F7
 refine zb (za ?_)
 refine s_as ?_
 refine zf (zd (zh (zj (zg (zw (zj (zg (zn ?_))))))))
 cases F7
 exact zk [] [] Tryz.results195
 refine zi (zW (zd (za ?_)))
 refine s_mv ?_
 refine zJ (zar C5 B6 hn_g3) ?_
 refine s_as ?_
 refine zf ?_
 exact s_rn (fu,(g3+1)) ⟨by first | omega | (dsimp only;omega),F7,by first | omega | (dsimp only;omega)⟩
 refine zz (zq (zp (zr (zd (zb (za ?_))))))
 refine s_as ?_
 refine zf (zd (zh (zn ?_)))
 cases F4
 exact zk [] [] Tryz.results195
theorem m_spec_l5Rows_all (fuel:Nat):zgs fuel:=by
 induction fuel using Nat.strongRecOn with
 | _ N ih =>
   cases N with
   | zero=>exact (by intro x1 x2 r h;rw [zeM] at h;cases h)
   | succ fu=>exact m_spec_l5Rows_st fu (fun k hk=>(ih k (by omega)))
theorem m_spec_l5Rows_ok (fuel:Nat):zgs fuel:=(m_spec_l5Rows_all fuel)
def m_spec_l5Less_AC (fuel:Nat):Prop:=∀ (x1:(List Hit)) (r:(List Hit)),zgV fuel x1=some r→AC Tryz.prog 196 [.t (.sl (x1.map Hit.row))] noOb (.t (.sl (r.map Hit.row))) noOb
theorem m_spec_l5Less_ok (fuel:Nat):m_spec_l5Less_AC fuel:=by
 intro x1 r F0
 unfold zgV at F0
 refine AC_i [.t (.sl (r.map Hit.row))] Tryz.func196 rfl Tryz.ntmps196 ?_
 intro C hC
 refine zb (za ?_)
 refine s_as ?_
 refine zf (zd (zb (za ?_)))
 refine s_bs Hit.row ([]:List Hit) yP30 yR40 ?_
 refine s_as ?_
 refine zf (zd (zb (zb (za ?_))))
 refine s_as ?_
 refine zf (zd (zl ?_))
 refine zeI 3 6 5020 (by conv=>lhs;whnf) (by conv=>lhs;whnf) rfl ?_
 refine zak [3,4,5,7,8,9,10,11,12,13,14,15,16,17,18,19,20,21,22,23,24,25,26,27,28,29,30,31,32,33,34,35,36,37,38,39] [5020] [5,38,39] [5020] (fun a:Nat × (List Hit) × Int=>a.1) (fun a:Nat × (List Hit) × Int=>[(3,.ar 5020),(4,.t (.sc (.int .i64 a.2.2)))]) (fun a:Nat × (List Hit) × Int=>[(5020,.arr (a.2.1.map Hit.row) 40 true)]) (fun a:Nat × (List Hit) × Int=>a.1≤fuel∧zca a.1 x1 a.2.1 a.2.2=some r∧0≤a.2.2) (fuel,([]:List Hit),0) ⟨Nat.le_refl _,F0,by simp⟩ (by rfl) (by rfl) (fun _=>rfl) (zI (by conv=>lhs;whnf) (by rfl) (zI (by conv=>lhs;whnf) (by rfl) zaX)) (zL (by conv=>lhs;whnf) (by rfl) zaK) (zbZ hC rfl) (by repeat (first | exact z6 rfl | refine zal rfl ?_ | refine zQ rfl ?_)) (by repeat (first | exact zay | exact zad rfl | refine zam rfl ?_ | refine zR rfl ?_)) ?_
 clear F0
 rintro ⟨fu,g1,g2⟩ ⟨hl3,F1,hn_g2⟩
 dsimp only at hl3 F1 hn_g2 ⊢
 obtain _ | fu:=fu
 · rw [zca] at F1;cases F1
 rw [zca] at F1
 refine zb (zb (za ?_))
 refine s_mv ?_
 refine s_mv ?_
 refine zC yU30 ?_
 refine s_lt ?_
 refine zf (zd ?_)
 refine zm F1 ?_ ?_<;>intro C4 F2
 refine zM 0 (fun B5=>?_)
 refine zi (zd (zb (zl (zb ?_))))
 refine zP yMix (by kernel_rfl) ?_
 refine s_mv ?_
 refine s_mv ?_
 obtain ⟨v6,V6,F3⟩:=zc F2
 refine zK Hit.row V6 (Hit.row_eq _) yE30 ?_
 refine s_fa ziF ?_
 refine zai yA27 yS27 ?_
 refine s_mv ?_
 refine s_mv ?_
 obtain ⟨v7,V7,F4⟩:=zc F3
 refine zK Hit.row V7 (Hit.row_eq _) yE30 ?_
 refine s_fa zhY ?_
 refine zu yA3 ?_
 refine s_mv ?_
 refine s_mv ?_
 obtain ⟨v8,V8,F5⟩:=zc F4
 refine zK Hit.row V8 (Hit.row_eq _) yE30 ?_
 refine s_fa yF40_2 ?_
 refine zai yA27 yS27 ?_
 refine zgE yZ40 yL40 ?_
 refine zU yZ40 ?_
 refine zab yS40 ?_
 refine zah (by kernel_rfl) ?_
 refine zd (zb (zb (za ?_)))
 refine s_fa zhY ?_
 refine zu yA3 ?_
 refine s_gt ?_
 refine zf (zd ?_)
 refine zm F5 ?_ ?_<;>intro C9 F6
 refine za ?_
 refine s_fa zhY ?_
 refine zu yA3 ?_
 refine zih rfl ?_
 refine s_fa zhY ?_
 refine zii yS3 ?_
 refine zf (zd (za ?_))
 refine s_mv ?_
 refine zG yA40 yS40 ?_
 refine s_bs Hit.row [(Hit.mk v6.name (w64 (v7.depth-1)) v8.one ([]:List Hit))] yP30 yR40 ?_
 obtain ⟨hk10,F7⟩:=zac F6
 refine zel Hit.row (fun y=>Hit.row_len y) hk10 yP30 ?_
 refine s_as ?_
 refine zf (zW (zd (za ?_)))
 refine s_mv ?_
 refine zJ (zar C4 B5 hn_g2) ?_
 refine s_as ?_
 refine zf ?_
 exact s_rn (fu,(g1++[(Hit.mk v6.name (w64 (v7.depth-1)) v8.one ([]:List Hit))]),(g2+1)) ⟨by first | omega | (dsimp only;omega),F7,by first | omega | (dsimp only;omega)⟩ [(5020,39)]
 refine zi (zd (za ?_))
 refine s_mv ?_
 refine zG yA40 yS40 ?_
 refine s_bs Hit.row [(Hit.mk v6.name v7.depth v8.one ([]:List Hit))] yP30 yR40 ?_
 obtain ⟨hk11,F7⟩:=zac F6
 refine zel Hit.row (fun y=>Hit.row_len y) hk11 yP30 ?_
 refine s_as ?_
 refine zf (zW (zd (za ?_)))
 refine s_mv ?_
 refine zJ (zar C4 B5 hn_g2) ?_
 refine s_as ?_
 refine zf ?_
 exact s_rn (fu,(g1++[(Hit.mk v6.name v7.depth v8.one ([]:List Hit))]),(g2+1)) ⟨by first | omega | (dsimp only;omega),F7,by first | omega | (dsimp only;omega)⟩ [(5020,39)]
 refine zz (zq (zp (zr (zd (zb (za ?_))))))
 refine s_mv ?_
 refine s_as ?_
 refine zf (zd (zh (zn ?_)))
 cases F2
 exact zk [] [5020] Tryz.results196
def zho (fuel:Nat):Prop:=∀ (x1:Form) (x2:(List Hit)) (r:Bool),zem fuel x1 x2=some r→AC Tryz.prog 170 [.ag [.t (.sc (.int .i64 x1.kind)),.t (.sc (.str x1.name)),.t (.sc (.int .i64 x1.n)),.t (.sl (x1.scopes.map rI)),.t (.sl (x1.kids.map Form.row))],.t (.sl (x2.map Hit.row))] noOb (.t (.sc (.bool r))) noOb
theorem m_spec_l5Is_st (fu:Nat) (ih_m_spec_l5Is:∀ k,k≤fu→zho k):zho (fu+1):=by
 intro x1 x2 r F0
 rw [zem] at F0
 refine AC_i [.t (.sc (.bool r))] Tryz.func170 rfl Tryz.ntmps170 ?_
 intro C hC
 refine zb (za ?_)
 refine zaN ?_
 refine s_as ?_
 refine zf (zd (zb (zb (za ?_))))
 refine zG yA27 yS27 ?_
 obtain ⟨v1,V1,F1⟩:=zc F0
 refine zv [] (zaR fu _ _ V1) ?_
 refine s_mv ?_
 refine zo _ 8 F1 ?_ ?_<;>intro C2 F2
 iterate 4 refine r_no rfl ?_
 refine zA ?_
 refine zf (zd (zT rfl (zb (za ?_))))
 refine s_as ?_
 refine zf (zd (zh (zg (zn ?_))))
 cases F2
 exact zk [] [] Tryz.results170
 refine s_mv ?_
 refine zG yA27 yS27 ?_
 obtain ⟨v3,V3,F3⟩:=zc F2
 refine zv [] (ziK fu _ _ _ V3) ?_
 refine s_gt ?_
 refine zy ?_
 refine zf (zd ?_)
 refine zm F3 ?_ ?_<;>intro C4 F4
 refine zb (za ?_)
 refine s_as ?_
 refine zf (zd (zh (zg (zn ?_))))
 cases F4
 exact zk [] [] Tryz.results170
 refine zi (zd (zb (zb (za ?_))))
 refine s_as ?_
 refine zf (zd (zl ?_))
 refine zaP (β:=Int) [4,5,14,15,16,17,18,19,20,21,22,23,24,25,26,27,28,29,30,31,32,33,34,35,36,37,38,39,40,41,42,43,44,45,46,47,48,49,50,51,52,53,54,55,56,57,58,59,60,61,62,63,64,65,66,67,68,69,70,71,72,73,74,75,76,77,78,79] [] [] (fun a=>[(5,.t (.sc (.int .i64 a.2)))]) (fun a=>[]) (fun a=>a.1≤fu∧zbQ a.1 x1 x2 a.2=some r∧0≤a.2) (fu,0) ⟨Nat.le_refl _,F4,by simp⟩ ?_
 clear F4
 rintro ⟨fu,g5⟩ ⟨hl6,F5,hn_g5⟩
 dsimp only at hl6 F5 hn_g5 ⊢
 obtain _ | fu:=fu
 · rw [zbQ] at F5;cases F5
 rw [zbQ] at F5
 refine zb (zb (za ?_))
 refine s_mv ?_
 refine s_fa zF ?_
 refine zu yA25 ?_
 refine zC yU25 ?_
 refine s_lt ?_
 refine zf (zd ?_)
 refine zm F5 ?_ ?_<;>intro C7 F6
 refine zM 16 (fun B8=>?_)
 refine zi (zd (zb (zl (zb (zb (za ?_))))))
 refine s_fa zF ?_
 refine zu yA25 ?_
 refine s_mv ?_
 obtain ⟨v9,V9,F7⟩:=zc F6
 refine zK Form.row V9 (Form.row_eq _) yE25 ?_
 refine zai yA27 yS27 ?_
 obtain ⟨v10,V10,F8⟩:=zc F7
 refine zv [] (zaR fu _ _ V10) ?_
 refine zf (zd ?_)
 refine zm F8 ?_ ?_<;>intro C11 F9
 refine zb (zb (za ?_))
 refine s_mv ?_
 refine s_eq ?_
 refine s_mv ?_
 refine zo _ 29 F9 ?_ ?_<;>intro C12 F10
 iterate 7 refine r_no rfl ?_
 refine zA ?_
 refine zf (zd (zT rfl (zb (za ?_))))
 refine s_as ?_
 refine zf (zd (zh (zg (zg (zj (zg (zw (zj (zg (zn ?_))))))))))
 cases F10
 exact zk [] [] Tryz.results170
 refine s_fa zF ?_
 refine zu yA25 ?_
 refine s_mv ?_
 refine zih rfl ?_
 obtain ⟨v13,V13,F11⟩:=zc F10
 refine zK Form.row V13 (Form.row_eq _) yE25 ?_
 refine zai yA27 yS27 ?_
 obtain ⟨v14,V14,F12⟩:=zc F11
 refine zv [] (zaR fu _ _ V14) ?_
 refine zy ?_
 refine zf (zd ?_)
 refine zm F12 ?_ ?_<;>intro C15 F13
 refine zb (za ?_)
 refine s_as ?_
 refine zf (zd (zh (zg (zg (zj (zg (zw (zj (zg (zn ?_))))))))))
 cases F13
 exact zk [] [] Tryz.results170
 refine zi (zd (zz (zq (zr (zd (za ?_))))))
 refine s_mv ?_
 refine zJ (zar C7 B8 hn_g5) ?_
 refine s_as ?_
 refine zf ?_
 exact s_rn (fu,(g5+1)) ⟨by first | omega | (dsimp only;omega),F13,by first | omega | (dsimp only;omega)⟩
 refine zi (zd (zb (zb (za ?_))))
 refine s_mv ?_
 refine zJ (zar C7 B8 hn_g5) ?_
 refine s_fa zF ?_
 refine zu yA25 ?_
 refine zC yU25 ?_
 refine s_lt ?_
 refine s_mv ?_
 refine zo _ 44 F9 ?_ ?_<;>intro C16 F10
 refine s_fa zF ?_
 refine zu yA25 ?_
 refine s_mv ?_
 refine zJ (zar C7 B8 hn_g5) ?_
 obtain ⟨v17,V17,F11⟩:=zc F10
 refine zK Form.row V17 (Form.row_eq _) yE25 ?_
 refine zai yA27 yS27 ?_
 obtain ⟨v18,V18,F12⟩:=zc F11
 refine zv [] (zaR fu _ _ V18) ?_
 refine zA ?_
 refine zf (zd ?_)
 refine zm F12 ?_ ?_<;>intro C19 F13
 refine zb (zb ?_)
 refine zP yMix (by kernel_rfl) ?_
 refine s_mv ?_
 refine s_fa zF ?_
 refine zu yA25 ?_
 refine s_mv ?_
 obtain ⟨v20,V20,F14⟩:=zc F13
 refine zK Form.row V20 (Form.row_eq _) yE25 ?_
 refine zai yA27 yS27 ?_
 obtain ⟨v21,V21,F15⟩:=zc F14
 refine zv [] (m_spec_l5Rows_ok fu _ _ _ V21) ?_
 refine zaG ?_
 refine s_mv ?_
 refine zo _ 61 F15 ?_ ?_<;>intro C22 F16
 iterate 9 refine r_no rfl ?_
 refine zA ?_
 refine zah (by kernel_rfl) ?_
 refine zd (zT rfl (zb (za ?_)))
 refine s_as ?_
 refine zf (zd (zh (zg (zg (zj (zg (zw (zj (zg (zn ?_))))))))))
 cases F16
 exact zk [] [] Tryz.results170
 refine s_fa zF ?_
 refine zu yA25 ?_
 refine s_mv ?_
 obtain ⟨v23,V23,F17⟩:=zc F16
 refine zK Form.row V23 (Form.row_eq _) yE25 ?_
 refine zai yA27 yS27 ?_
 refine s_mv ?_
 obtain ⟨v24,V24,F18⟩:=zc F17
 refine zv [] (m_spec_l5Less_ok fu _ _ V24) ?_
 obtain ⟨v25,V25,F19⟩:=zc F18
 refine zv [] (ih_m_spec_l5Is fu (by omega) _ _ _ V25) ?_
 refine zaG ?_
 refine zy ?_
 refine zah (by kernel_rfl) ?_
 refine zd ?_
 refine zm F19 ?_ ?_<;>intro C26 F20
 refine zb (za ?_)
 refine s_as ?_
 refine zf (zd (zh (zg (zg (zj (zg (zw (zj (zg (zn ?_))))))))))
 cases F20
 exact zk [] [] Tryz.results170
 refine zi (zd (zz (zq (zr (zd (za ?_))))))
 refine s_mv ?_
 refine zJ (zar C7 B8 hn_g5) ?_
 refine s_as ?_
 refine zf ?_
 exact s_rn (fu,(g5+1)) ⟨by first | omega | (dsimp only;omega),F20,by first | omega | (dsimp only;omega)⟩
 refine zi (zd (zb (za ?_)))
 refine s_fa zF ?_
 refine zu yA25 ?_
 refine s_mv ?_
 obtain ⟨v27,V27,F14⟩:=zc F13
 refine zK Form.row V27 (Form.row_eq _) yE25 ?_
 refine zai yA27 yS27 ?_
 refine s_mv ?_
 obtain ⟨v28,V28,F15⟩:=zc F14
 refine zv [] (ih_m_spec_l5Is fu (by omega) _ _ _ V28) ?_
 refine zaG ?_
 refine zf (zd ?_)
 refine zm F15 ?_ ?_<;>intro C29 F16
 refine zb (za ?_)
 refine s_as ?_
 refine zf (zd (zh (zj (zg (zw (zj (zg (zn ?_))))))))
 cases F16
 exact zk [] [] Tryz.results170
 refine zi (zW (zd (za ?_)))
 refine s_mv ?_
 refine zJ (zar C7 B8 hn_g5) ?_
 refine s_as ?_
 refine zf ?_
 exact s_rn (fu,(g5+1)) ⟨by first | omega | (dsimp only;omega),F16,by first | omega | (dsimp only;omega)⟩
 iterate 7 refine r_no rfl ?_
 refine zy ?_
 refine zf (zd (zaZ rfl (zi (zd (zb (za ?_))))))
 refine s_fa zF ?_
 refine zu yA25 ?_
 refine s_mv ?_
 obtain ⟨v30,V30,F11⟩:=zc F10
 refine zK Form.row V30 (Form.row_eq _) yE25 ?_
 refine zai yA27 yS27 ?_
 refine s_mv ?_
 obtain ⟨v31,V31,F12⟩:=zc F11
 refine zv [] (ih_m_spec_l5Is fu (by omega) _ _ _ V31) ?_
 refine zaG ?_
 refine zf (zd ?_)
 refine zm F12 ?_ ?_<;>intro C32 F13
 refine zb (za ?_)
 refine s_as ?_
 refine zf (zd (zh (zj (zg (zw (zj (zg (zn ?_))))))))
 cases F13
 exact zk [] [] Tryz.results170
 refine zi (zW (zd (za ?_)))
 refine s_mv ?_
 refine zJ (zar C7 B8 hn_g5) ?_
 refine s_as ?_
 refine zf ?_
 exact s_rn (fu,(g5+1)) ⟨by first | omega | (dsimp only;omega),F13,by first | omega | (dsimp only;omega)⟩
 refine zz (zq (zp (zr (zd (zb (za ?_))))))
 refine s_as ?_
 refine zf (zd (zh (zn ?_)))
 cases F6
 exact zk [] [] Tryz.results170
theorem m_spec_l5Is_all (fuel:Nat):zho fuel:=by
 induction fuel using Nat.strongRecOn with
 | _ N ih =>
   cases N with
   | zero=>exact (by intro x1 x2 r h;rw [zem] at h;cases h)
   | succ fu=>exact m_spec_l5Is_st fu (fun k hk=>(ih k (by omega)))
theorem m_spec_l5Is_ok (fuel:Nat):zho fuel:=(m_spec_l5Is_all fuel)
def m_spec_l5Rule_AC (fuel:Nat):Prop:=∀ (x1:Rule) (x2:(List Form)) (r:Bool),zdA fuel x1 x2=some r→AC Tryz.prog 154 [.ag [.t (.sc (.int .i64 x1.pattern.kind)),.t (.sc (.str x1.pattern.name)),.t (.sc (.int .i64 x1.pattern.n)),.t (.sl (x1.pattern.scopes.map rI)),.t (.sl (x1.pattern.kids.map Form.row)),.t (.sc (.int .i64 x1.template.kind)),.t (.sc (.str x1.template.name)),.t (.sc (.int .i64 x1.template.n)),.t (.sl (x1.template.scopes.map rI)),.t (.sl (x1.template.kids.map Form.row))],.t (.sl (x2.map Form.row))] noOb (.t (.sc (.bool r))) noOb
theorem m_spec_l5Rule_ok (fuel:Nat):m_spec_l5Rule_AC fuel:=by
 intro x1 x2 r F0
 unfold zdA at F0
 refine AC_i [.t (.sc (.bool r))] Tryz.func154 rfl Tryz.ntmps154 ?_
 intro C hC
 refine zb (za ?_)
 refine zaN ?_
 refine s_as ?_
 refine zf (zd (zb ?_))
 refine zP yMix (by kernel_rfl) ?_
 refine s_fa zhX ?_
 refine zai yA27 yS27 ?_
 refine s_mv ?_
 obtain ⟨v1,V1,F1⟩:=zc F0
 refine zv [] (m_spec_l4Is_ok fuel _ _ _ V1) ?_
 refine s_mv ?_
 refine zo _ 9 F1 ?_ ?_<;>intro C2 F2
 refine s_fa zhX ?_
 refine s_fa zc1 ?_
 refine zu yA3 ?_
 refine s_eq ?_
 refine zA ?_
 refine s_mv ?_
 refine zo _ 15 F2 ?_ ?_<;>intro C3 F3
 refine s_fa zhX ?_
 refine s_fa zF ?_
 refine zu yA25 ?_
 refine zC yU25 ?_
 refine s_gt ?_
 refine zA ?_
 refine s_mv ?_
 refine zo _ 22 F3 ?_ ?_<;>intro C4 F4
 refine s_fa yF73_1 ?_
 refine zai yA27 yS27 ?_
 obtain ⟨v5,V5,F5⟩:=zc F4
 refine zv [] (zcf fuel _ _ V5) ?_
 refine zA ?_
 refine s_mv ?_
 refine zo _ 27 F5 ?_ ?_<;>intro C6 F6
 refine s_fa yF73_1 ?_
 refine zai yA27 yS27 ?_
 refine s_fa zhX ?_
 refine zai yA27 yS27 ?_
 refine s_mv ?_
 obtain ⟨v7,V7,F7⟩:=zc F6
 refine zv [] (m_spec_l5Shape_ok fuel _ _ _ V7) ?_
 obtain ⟨v8,V8,F8⟩:=zc F7
 refine zv [] (m_spec_l5Is_ok fuel _ _ _ V8) ?_
 refine zA ?_
 refine s_as ?_
 refine zah (by kernel_rfl) ?_
 refine zd (zh (zn ?_))
 cases F8
 exact zk [] [] Tryz.results154
 iterate 7 refine r_no rfl ?_
 refine zy ?_
 refine s_as ?_
 refine zah (by kernel_rfl) ?_
 refine zd (zh (zn ?_))
 cases F6
 exact zk [] [] Tryz.results154
 iterate 3 refine r_no rfl ?_
 refine zy ?_
 refine s_mv ?_
 iterate 7 refine r_no rfl ?_
 refine zy ?_
 refine s_as ?_
 refine zah (by kernel_rfl) ?_
 refine zd (zh (zn ?_))
 cases F4
 exact zk [] [] Tryz.results154
 iterate 5 refine r_no rfl ?_
 refine zy ?_
 refine s_mv ?_
 iterate 3 refine r_no rfl ?_
 refine zy ?_
 refine s_mv ?_
 iterate 7 refine r_no rfl ?_
 refine zy ?_
 refine s_as ?_
 refine zah (by kernel_rfl) ?_
 refine zd (zh (zn ?_))
 cases F3
 exact zk [] [] Tryz.results154
 iterate 4 refine r_no rfl ?_
 refine zy ?_
 refine s_mv ?_
 iterate 5 refine r_no rfl ?_
 refine zy ?_
 refine s_mv ?_
 iterate 3 refine r_no rfl ?_
 refine zy ?_
 refine s_mv ?_
 iterate 7 refine r_no rfl ?_
 refine zy ?_
 refine s_as ?_
 refine zah (by kernel_rfl) ?_
 refine zd (zh (zn ?_))
 cases F2
 exact zk [] [] Tryz.results154
def m_spec_l5Rules_AC (fuel:Nat):Prop:=∀ (x1:(List Rule)) (x2:(List Form)) (r:Bool),zfo fuel x1 x2=some r→AC Tryz.prog 94 [.t (.sl (x1.map Rule.row)),.t (.sl (x2.map Form.row))] noOb (.t (.sc (.bool r))) noOb
theorem ziJ (fuel:Nat):m_spec_l5Rules_AC fuel:=by
 intro x1 x2 r F0
 unfold zfo at F0
 refine AC_i [.t (.sc (.bool r))] Tryz.func94 rfl Tryz.ntmps94 ?_
 intro C hC
 refine zb (za ?_)
 refine s_as ?_
 refine zf (zd (zb (zb (za ?_))))
 refine s_as ?_
 refine zf (zd (zl ?_))
 refine zaP (β:=Int) [4,5,6,7,8,9,10,11,12,13,14,15,16,17,18,19,20,21,22] [] [] (fun a=>[(5,.t (.sc (.int .i64 a.2)))]) (fun a=>[]) (fun a=>a.1≤fuel∧zcj a.1 x1 x2 a.2=some r) (fuel,0) ⟨Nat.le_refl _,F0⟩ ?_
 clear F0
 rintro ⟨fu,g1⟩ ⟨hl2,F1⟩
 dsimp only at hl2 F1 ⊢
 obtain _ | fu:=fu
 · rw [zcj] at F1;cases F1
 rw [zcj] at F1
 refine zb ?_
 refine za2 (α:=Nat × Bool) [6,7,8,9,10,11,12,13] [] [] (fun a=>[(13,.t (.sc (.bool a.2)))]) (fun a=>[]) (fun a=>a.1≤fu∧zck a.1 x1 x2 g1 a.2=some r) ?_ ?_
 refine za ?_
 refine s_mv ?_
 refine s_mv ?_
 refine zC yU62 ?_
 refine s_lt ?_
 refine s_mv ?_
 refine zo _ 10 F1 ?_ ?_<;>intro C3 F2
 refine s_mv ?_
 refine s_lt ?_
 refine zA ?_
 refine zf ?_
 exact s_jn (fu,(decide (g1 < 10))) ⟨by first | omega | (dsimp only;omega),F2⟩
 refine r_no rfl (r_no rfl ?_)
 refine zy ?_
 refine zf ?_
 exact s_jn (fu,false) ⟨by first | omega | (dsimp only;omega),F2⟩
 clear F1
 rintro ⟨fu,g4⟩ ⟨hl5,F2⟩
 dsimp only at hl5 F2 ⊢
 obtain _ | fu:=fu
 · rw [zck] at F2;cases F2
 rw [zck] at F2
 refine zm F2 ?_ ?_<;>intro C6 F3
 refine zi (zd (zb (zl (zb (za ?_)))))
 refine s_mv ?_
 refine s_mv ?_
 obtain ⟨v7,V7,F4⟩:=zc F3
 refine zK Rule.row V7 (Rule.row_eq _) yE62 ?_
 refine zai yA73 yS73 ?_
 refine s_mv ?_
 obtain ⟨v8,V8,F5⟩:=zc F4
 refine zv [] (m_spec_l5Rule_ok fu _ _ _ V8) ?_
 refine zaG ?_
 refine zf (zd ?_)
 refine zm F5 ?_ ?_<;>intro C9 F6
 refine zb (za ?_)
 refine s_as ?_
 refine zf (zd (zh (zj (zg (zw (zj (zg (zn ?_))))))))
 cases F6
 exact zk [] [] Tryz.results94
 refine zi (zW (zd (za ?_)))
 refine s_mv ?_
 refine zJ rfl ?_
 refine s_as ?_
 refine zf ?_
 exact s_rn (fu,(w64 (g1+1))) ⟨by first | omega | (dsimp only;omega),F6⟩
 refine zz (zq (zp (zr (zd (zb (za ?_))))))
 refine s_mv ?_
 refine zC yU62 ?_
 refine s_lt ?_
 refine s_mv ?_
 refine zo _ 26 F3 ?_ ?_<;>intro C10 F4
 refine s_mv ?_
 obtain ⟨v11,V11,F5⟩:=zc F4
 refine zv [] (zhL fu _ _ V11) ?_
 refine zA ?_
 refine s_as ?_
 refine zf (zd (zh (zn ?_)))
 cases F5
 exact zk [] [] Tryz.results94
 refine r_no rfl (r_no rfl ?_)
 refine zy ?_
 refine s_as ?_
 refine zf (zd (zh (zn ?_)))
 cases F4
 exact zk [] [] Tryz.results94
end Go.Abs
