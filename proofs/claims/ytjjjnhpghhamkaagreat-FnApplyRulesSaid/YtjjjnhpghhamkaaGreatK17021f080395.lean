/- A part of the proof: what the functions that the law calls answer, as pure values. -/
import Derived.Test.YtjjjnhpghhamkaaGreatK8d582f2e31e6
import Derived.Test.YtjjjnhpghhamkaaGreatK135f79d6a7aa
import Derived.Test.YtjjjnhpghhamkaaGreatK4ee70f842008
import Derived.Test.YtjjjnhpghhamkaaGreatK06634278733b
import Derived.Test.YtjjjnhpghhamkaaGreatKfe938720da0d
import Derived.Test.YtjjjnhpghhamkaaGreatKdce879462e48
set_option linter.unusedSimpArgs false
set_option linter.unusedVariables false
set_option maxRecDepth 100000
set_option maxHeartbeats 4000000
namespace Go.Abs
open Go.Proofs
def m_impl_FindName_AC (fuel:Nat):Prop:=∀ (x1:(List Bind)) (x2:Form) (r:(Int × Int)),zeG fuel x1 x2=some r→AC Tryz.prog 177 [.t (.sl (x1.map Bind.row)),.ag [.t (.sc (.int .i64 x2.kind)),.t (.sc (.str x2.name)),.t (.sc (.int .i64 x2.n)),.t (.sl (x2.scopes.map rI)),.t (.sl (x2.kids.map Form.row))]] noOb (.tp [.t (.sc (.int .i64 r.1)),.t (.sc (.int .i64 r.2))]) noOb
theorem zir (fuel:Nat):m_impl_FindName_AC fuel:=by
 intro x1 x2 r F0
 unfold zeG at F0
 refine AC_i [.t (.sc (.int .i64 r.1)),.t (.sc (.int .i64 r.2))] Tryz.func177 rfl Tryz.ntmps177 ?_
 intro C hC
 refine zb (za ?_)
 refine zaN ?_
 refine s_as ?_
 refine s_as ?_
 refine zf (zd (zb ?_))
 refine za2 (α:=Nat × Bool) [8,9,10,11,12,13,14,15] [] [] (fun a=>[(15,.t (.sc (.bool a.2)))]) (fun a=>[]) (fun a=>a.1≤fuel∧zdm a.1 x1 x2 a.2=some r) ?_ ?_
 refine za ?_
 refine s_mv ?_
 obtain ⟨v1,V1,F1⟩:=zc F0
 refine zv [] (zew fuel _ _ V1) ?_
 refine zaG ?_
 refine s_mv ?_
 refine zo _ 11 F1 ?_ ?_<;>intro C2 F2
 iterate 3 refine r_no rfl ?_
 refine zA ?_
 refine zf ?_
 exact s_jn (fuel,true) ⟨by first | omega | (dsimp only;omega),F2⟩
 refine zG yA27 yS27 ?_
 obtain ⟨v3,V3,F3⟩:=zc F2
 refine zv [] (zfi fuel _ _ V3) ?_
 refine zaG ?_
 refine zy ?_
 refine zf ?_
 exact s_jn (fuel,(!v3)) ⟨by first | omega | (dsimp only;omega),F3⟩
 clear F0
 rintro ⟨fu,g4⟩ ⟨hl5,F1⟩
 dsimp only at hl5 F1 ⊢
 obtain _ | fu:=fu
 · rw [zdm] at F1;cases F1
 rw [zdm] at F1
 refine zm F1 ?_ ?_<;>intro C6 F2
 refine zb (za ?_)
 refine s_as ?_
 refine s_as ?_
 refine zf (zd (zh (zg (zn ?_))))
 cases F2
 exact zk [] [] Tryz.results177
 refine zi (zd (zb (za ?_)))
 refine s_mv ?_
 refine zG yA27 yS27 ?_
 obtain ⟨v7,V7,F3⟩:=zc F2
 refine zv [] (m_impl_bound_ok fu _ _ _ V7) ?_
 refine s_mv ?_
 refine za4 ?_
 refine za4 ?_
 refine s_as ?_
 refine s_as ?_
 refine zf (zd (zb (zb (za ?_))))
 refine s_mv ?_
 refine s_ne ?_
 refine zf (zd ?_)
 refine zm F3 ?_ ?_<;>intro C8 F4
 refine zb (za ?_)
 refine s_mv ?_
 refine s_as ?_
 refine s_as ?_
 refine zf (zd (zh (zg (zn ?_))))
 cases F4
 exact zk [] [] Tryz.results177
 refine zi (zd (zb (za ?_)))
 refine s_mv ?_
 refine s_mv ?_
 obtain ⟨v9,V9,F5⟩:=zc F4
 refine zK Bind.row V9 (Bind.row_eq _) yE23 ?_
 refine s_fa yF93_2 ?_
 refine zu yA3 ?_
 refine s_as ?_
 refine s_as ?_
 refine zf (zd (zh (zn ?_)))
 cases F5
 exact zk [] [] Tryz.results177
def zjg (fuel:Nat):Prop:=∀ (x1:(List Bind)) (x2:Form) (x3:Form) (r:Bool),zdz fuel x1 x2 x3=some r→AC Tryz.prog 122 [.t (.sl (x1.map Bind.row)),.ag [.t (.sc (.int .i64 x2.kind)),.t (.sc (.str x2.name)),.t (.sc (.int .i64 x2.n)),.t (.sl (x2.scopes.map rI)),.t (.sl (x2.kids.map Form.row))],.ag [.t (.sc (.int .i64 x3.kind)),.t (.sc (.str x3.name)),.t (.sc (.int .i64 x3.n)),.t (.sl (x3.scopes.map rI)),.t (.sl (x3.kids.map Form.row))]] noOb (.t (.sc (.bool r))) noOb
theorem zjf (fuel:Nat):zjg fuel:=by
 intro x1 x2 x3 r F0
 unfold zdz at F0
 refine AC_i [.t (.sc (.bool r))] Tryz.func122 rfl Tryz.ntmps122 ?_
 intro C hC
 refine zb (za ?_)
 refine zaN ?_
 refine zaN ?_
 refine s_as ?_
 refine zf (zd (zb ?_))
 refine za2 (α:=Nat × Bool) [11,12,13,14,15,16,17,18,19,20,21,22,23] [] [] (fun a=>[(23,.t (.sc (.bool a.2)))]) (fun a=>[]) (fun a=>a.1≤fuel∧zaD a.1 x1 x2 x3 a.2=some r) ?_ ?_
 refine za ?_
 refine s_mv ?_
 obtain ⟨v1,V1,F1⟩:=zc F0
 refine zv [] (zew fuel _ _ V1) ?_
 refine zaG ?_
 refine s_mv ?_
 refine zo _ 14 F1 ?_ ?_<;>intro C2 F2
 iterate 3 refine r_no rfl ?_
 refine zA ?_
 refine s_mv ?_
 iterate 3 refine r_no rfl ?_
 refine zA ?_
 refine zf ?_
 exact s_jn (fuel,true) ⟨by first | omega | (dsimp only;omega),F2⟩
 refine zG yA27 yS27 ?_
 obtain ⟨v3,V3,F3⟩:=zc F2
 refine zv [] (zfi fuel _ _ V3) ?_
 refine zaG ?_
 refine zy ?_
 refine s_mv ?_
 refine zo _ 19 F3 ?_ ?_<;>intro C4 F4
 iterate 3 refine r_no rfl ?_
 refine zA ?_
 refine zf ?_
 exact s_jn (fuel,true) ⟨by first | omega | (dsimp only;omega),F4⟩
 refine zG yA27 yS27 ?_
 obtain ⟨v5,V5,F5⟩:=zc F4
 refine zv [] (zfi fuel _ _ V5) ?_
 refine zaG ?_
 refine zy ?_
 refine zf ?_
 exact s_jn (fuel,(!v5)) ⟨by first | omega | (dsimp only;omega),F5⟩
 clear F0
 rintro ⟨fu,g6⟩ ⟨hl7,F1⟩
 dsimp only at hl7 F1 ⊢
 obtain _ | fu:=fu
 · rw [zaD] at F1;cases F1
 rw [zaD] at F1
 refine zm F1 ?_ ?_<;>intro C8 F2
 refine zb (za ?_)
 refine s_as ?_
 refine zf (zd (zh (zg (zn ?_))))
 cases F2
 exact zk [] [] Tryz.results122
 refine zi (zd (zb (za ?_)))
 refine s_mv ?_
 refine zG yA27 yS27 ?_
 obtain ⟨v9,V9,F3⟩:=zc F2
 refine zv [] (zir fu _ _ _ V9) ?_
 refine s_mv ?_
 refine za4 ?_
 refine za4 ?_
 refine s_as ?_
 refine s_as ?_
 refine zf (zd (zb (za ?_)))
 refine s_mv ?_
 refine zG yA27 yS27 ?_
 obtain ⟨v10,V10,F4⟩:=zc F3
 refine zv [] (zir fu _ _ _ V10) ?_
 refine s_mv ?_
 refine za4 ?_
 refine za4 ?_
 refine s_as ?_
 refine s_as ?_
 refine zf (zd (zb (za ?_)))
 refine s_mv ?_
 refine s_eq ?_
 refine s_mv ?_
 refine zo _ 38 F4 ?_ ?_<;>intro C11 F5
 refine s_mv ?_
 refine s_eq ?_
 refine zA ?_
 refine s_mv ?_
 refine zo _ 42 F5 ?_ ?_<;>intro C12 F6
 refine s_mv ?_
 refine s_mv ?_
 refine s_eq ?_
 refine zA ?_
 refine s_mv ?_
 refine zo _ 47 F6 ?_ ?_<;>intro C13 F7
 iterate 13 refine r_no rfl ?_
 refine zA ?_
 refine s_as ?_
 refine zf (zd (zh (zn ?_)))
 cases F7
 exact zk [] [] Tryz.results122
 refine s_mv ?_
 refine s_eq ?_
 refine s_mv ?_
 refine zo _ 50 F7 ?_ ?_<;>intro C14 F8
 refine s_mv ?_
 refine s_eq ?_
 refine zA ?_
 refine s_mv ?_
 refine zo _ 54 F8 ?_ ?_<;>intro C15 F9
 refine s_fa zcp ?_
 refine zu yA9 ?_
 refine s_fa zcp ?_
 refine zu yA9 ?_
 refine zhv ?_
 refine zA ?_
 refine zy ?_
 refine s_as ?_
 refine zf (zd (zh (zn ?_)))
 cases F9
 exact zk [] [] Tryz.results122
 iterate 5 refine r_no rfl ?_
 refine zy ?_
 refine zy ?_
 refine s_as ?_
 refine zf (zd (zh (zn ?_)))
 cases F9
 exact zk [] [] Tryz.results122
 refine r_no rfl (r_no rfl ?_)
 refine zy ?_
 refine s_mv ?_
 iterate 5 refine r_no rfl ?_
 refine zy ?_
 refine zy ?_
 refine s_as ?_
 refine zf (zd (zh (zn ?_)))
 cases F8
 exact zk [] [] Tryz.results122
 iterate 3 refine r_no rfl ?_
 refine zy ?_
 refine s_mv ?_
 refine s_mv ?_
 refine s_eq ?_
 refine s_mv ?_
 refine zo _ 50 F6 ?_ ?_<;>intro C16 F7
 refine s_mv ?_
 refine s_eq ?_
 refine zA ?_
 refine s_mv ?_
 refine zo _ 54 F7 ?_ ?_<;>intro C17 F8
 refine s_fa zcp ?_
 refine zu yA9 ?_
 refine s_fa zcp ?_
 refine zu yA9 ?_
 refine zhv ?_
 refine zA ?_
 refine zy ?_
 refine s_as ?_
 refine zf (zd (zh (zn ?_)))
 cases F8
 exact zk [] [] Tryz.results122
 iterate 5 refine r_no rfl ?_
 refine zy ?_
 refine zy ?_
 refine s_as ?_
 refine zf (zd (zh (zn ?_)))
 cases F8
 exact zk [] [] Tryz.results122
 refine r_no rfl (r_no rfl ?_)
 refine zy ?_
 refine s_mv ?_
 iterate 5 refine r_no rfl ?_
 refine zy ?_
 refine zy ?_
 refine s_as ?_
 refine zf (zd (zh (zn ?_)))
 cases F7
 exact zk [] [] Tryz.results122
 refine r_no rfl (r_no rfl ?_)
 refine zy ?_
 refine s_mv ?_
 iterate 3 refine r_no rfl ?_
 refine zy ?_
 refine s_mv ?_
 refine s_mv ?_
 refine s_eq ?_
 refine s_mv ?_
 refine zo _ 50 F5 ?_ ?_<;>intro C18 F6
 refine s_mv ?_
 refine s_eq ?_
 refine zA ?_
 refine s_mv ?_
 refine zo _ 54 F6 ?_ ?_<;>intro C19 F7
 refine s_fa zcp ?_
 refine zu yA9 ?_
 refine s_fa zcp ?_
 refine zu yA9 ?_
 refine zhv ?_
 refine zA ?_
 refine zy ?_
 refine s_as ?_
 refine zf (zd (zh (zn ?_)))
 cases F7
 exact zk [] [] Tryz.results122
 iterate 5 refine r_no rfl ?_
 refine zy ?_
 refine zy ?_
 refine s_as ?_
 refine zf (zd (zh (zn ?_)))
 cases F7
 exact zk [] [] Tryz.results122
 refine r_no rfl (r_no rfl ?_)
 refine zy ?_
 refine s_mv ?_
 iterate 5 refine r_no rfl ?_
 refine zy ?_
 refine zy ?_
 refine s_as ?_
 refine zf (zd (zh (zn ?_)))
 cases F6
 exact zk [] [] Tryz.results122
def m_slices_Clone_int_AC (fuel:Nat):Prop:=∀ (x1:(List Int)) (r:(List Int)),zef fuel x1=some r→AC Tryz.prog 146 [.t (.sl (x1.map rI))] noOb (.t (.sl (r.map rI))) noOb
theorem m_slices_Clone_int_ok (fuel:Nat):m_slices_Clone_int_AC fuel:=by
 intro x1 r F0
 unfold zef at F0
 refine AC_i [.t (.sl (r.map rI))] Tryz.func146 rfl Tryz.ntmps146 ?_
 intro C hC
 refine awp_nil 0 (fun hz=>?_) ?_
 replace hz:=List.map_eq_nil_iff.mp hz;subst hz;obtain ⟨_,F1⟩:=zac F0
 refine zb (za ?_)
 refine s_as ?_
 refine zf (zd (zb (zb (za ?_))))
 refine s_mv ?_
 refine s_nil yU24 ?_
 refine zf (zd (zT rfl ?_))
 refine zhE 0 ?_
 refine zhE 3 ?_
 refine zb (za ?_)
 refine s_as ?_
 refine zf (zd (zh (zg (zn ?_))))
 cases F1
 exact zk [] [] Tryz.results146
 refine zb (za ?_)
 refine s_as ?_
 refine zf (zd (zb (zb (za ?_))))
 refine s_mv ?_
 refine s_nil yU24 ?_
 refine zf (zd (zaZ rfl ?_))
 refine zhE 0 ?_
 refine zhE 3 ?_
 refine zi (zd (zb (za ?_)))
 refine s_bs rI ([]:List Int) yP24 yR3 ?_
 refine s_mv ?_
 obtain ⟨hk1,F1⟩:=zac F0
 refine zel rI (fun _=>rfl) hk1 yP24 ?_
 refine s_as ?_
 refine zf (zd (zh (zn ?_)))
 cases F1
 exact zk [] [7] Tryz.results146
def zfA (fuel:Nat):Prop:=∀ (x1:Form) (r:Form),zaW fuel x1=some r→AC Tryz.prog 82 [.ag [.t (.sc (.int .i64 x1.kind)),.t (.sc (.str x1.name)),.t (.sc (.int .i64 x1.n)),.t (.sl (x1.scopes.map rI)),.t (.sl (x1.kids.map Form.row))]] noOb (.ag [.t (.sc (.int .i64 r.kind)),.t (.sc (.str r.name)),.t (.sc (.int .i64 r.n)),.t (.sl (r.scopes.map rI)),.t (.sl (r.kids.map Form.row))]) noOb
theorem m_impl_copyForm_st (fu:Nat) (ih_m_impl_copyForm:∀ k,k≤fu→zfA k):zfA (fu+1):=by
 intro x1 r F0
 rw [zaW] at F0
 refine AC_i [.ag [.t (.sc (.int .i64 r.kind)),.t (.sc (.str r.name)),.t (.sc (.int .i64 r.n)),.t (.sl (r.scopes.map rI)),.t (.sl (r.kids.map Form.row))]] Tryz.func82 rfl Tryz.ntmps82 ?_
 intro C hC
 refine zb (za ?_)
 refine zaN ?_
 refine zU yZ27 ?_
 refine zf (zd (zb ?_))
 refine zP yMix (by kernel_rfl) ?_
 refine s_fa zc1 ?_
 refine zu yA3 ?_
 refine s_fa zcp ?_
 refine zu yA9 ?_
 refine s_fa zhu ?_
 refine zu yA3 ?_
 refine s_fa zf9 ?_
 refine zu yA24 ?_
 obtain ⟨v1,V1,F1⟩:=zc F0
 refine zv [] (m_slices_Clone_int_ok fu _ _ V1) ?_
 refine zgE yZ27 yL27 ?_
 refine zU yZ27 ?_
 refine zab yS27 ?_
 refine zah (by kernel_rfl) ?_
 refine zd (zb (zb (za ?_)))
 refine s_fa zF ?_
 refine zu yA25 ?_
 refine zC yU25 ?_
 refine s_mv ?_
 refine zf (zd (zl ?_))
 refine awp_ownB 3 5020 27 [.t (.sc (.int .i64 x1.kind)),.t (.sc (.str x1.name)),.t (.sc (.int .i64 x1.n)),.t (.sl (v1.map rI)),.ar 5020] yI27.choose_spec ?_
 refine zak [5,19,20,21,22,23,24,25,26,27,28,29,30] [3,5020] [5,27,28] [5020] (fun a:Nat × Int × (List Form)=>a.1) (fun a:Nat × Int × (List Form)=>[(19,.t (.sc (.int .i64 a.2.1)))]) (fun a:Nat × Int × (List Form)=>[(3,.box [.t (.sc (.int .i64 x1.kind)),.t (.sc (.str x1.name)),.t (.sc (.int .i64 x1.n)),.t (.sl (v1.map rI)),.ar 5020]),(5020,.arr (a.2.2.map Form.row) 27 true)]) (fun a:Nat × Int × (List Form)=>a.1≤fu∧zcw a.1 x1 v1 a.2.1 a.2.2=some r∧0≤a.2.1) (fu,0,([]:List Form)) ⟨Nat.le_refl _,F1,by simp⟩ (by rfl) (by rfl) (fun _=>rfl) (zI (by conv=>lhs;whnf) (by rfl) zaX) (zL (by conv=>lhs;whnf) (by rfl) (zL (by conv=>lhs;whnf) (by rfl) zaK)) (zbZ hC rfl) (by repeat (first | exact z6 rfl | refine zal rfl ?_ | refine zQ rfl ?_)) (by repeat (first | exact zay | exact zad rfl | refine zam rfl ?_ | refine zR rfl ?_)) ?_
 clear F1
 rintro ⟨fu,g2,g3⟩ ⟨hl4,F2,hn_g2⟩
 dsimp only at hl4 F2 hn_g2 ⊢
 obtain _ | fu:=fu
 · rw [zcw] at F2;cases F2
 rw [zcw] at F2
 refine zb (za ?_)
 refine s_lt ?_
 refine zf (zd (zb ?_))
 refine zm F2 ?_ ?_<;>intro C5 F3
 refine zM 17 (fun B6=>?_)
 refine zi (zd (zb (zl (zb (za ?_)))))
 obtain ⟨v7,V7,F4⟩:=zc F3
 refine zK Form.row V7 (Form.row_eq _) yE25 ?_
 refine zai yA27 yS27 ?_
 refine zU yZ27 ?_
 refine zab yS27 ?_
 refine zf (zd ?_)
 refine zP yMix (by kernel_rfl) ?_
 refine s_fa zF ?_
 refine zu yA25 ?_
 refine zG yA27 yS27 ?_
 obtain ⟨v8,V8,F5⟩:=zc F4
 refine zv [] (ih_m_impl_copyForm fu (by omega) _ _ V8) ?_
 refine s_bs Form.row [v8] yP25 yR27 ?_
 obtain ⟨hk9,F6⟩:=zac F5
 refine zel Form.row (fun y=>Form.row_len y) hk9 yP25 ?_
 refine s_fa zF ?_
 refine zii yS25 ?_
 refine zah (by kernel_rfl) ?_
 refine zW (zd (za ?_))
 refine zJ (zar C5 B6 hn_g2) ?_
 refine s_mv ?_
 refine zf ?_
 exact s_rn (fu,(g2+1),(g3++[v8])) ⟨by first | omega | (dsimp only;omega),F6,by first | omega | (dsimp only;omega)⟩ [(5020,28)]
 refine zz (zq (zp (zr (zd (zb (za ?_))))))
 refine zG yA27 yS27 ?_
 refine zab yS27 ?_
 refine zf (zd (zh (zn ?_)))
 cases F3
 exact zZ [] [5020] (by rw [Tryz.results82];exact (zas (by conv=>lhs;whnf) (by conv=>lhs;whnf) yA27 yS27 rfl zae))
theorem m_impl_copyForm_all (fuel:Nat):zfA fuel:=by
 induction fuel using Nat.strongRecOn with
 | _ N ih =>
   cases N with
   | zero=>exact (by intro x1 r h;rw [zaW] at h;cases h)
   | succ fu=>exact m_impl_copyForm_st fu (fun k hk=>(ih k (by omega)))
theorem zdl (fuel:Nat):zfA fuel:=(m_impl_copyForm_all fuel)
def zfR (fuel:Nat):Prop:=∀ (x1:(List Bind)) (x2:Form) (x3:(List Form)) (x4:Form) (r:((List Hit) × Bool)),zcN fuel x1 x2 x3 x4=some r→AC Tryz.prog 61 [.t (.sl (x1.map Bind.row)),.ag [.t (.sc (.int .i64 x2.kind)),.t (.sc (.str x2.name)),.t (.sc (.int .i64 x2.n)),.t (.sl (x2.scopes.map rI)),.t (.sl (x2.kids.map Form.row))],.t (.sl (x3.map Form.row)),.ag [.t (.sc (.int .i64 x4.kind)),.t (.sc (.str x4.name)),.t (.sc (.int .i64 x4.n)),.t (.sl (x4.scopes.map rI)),.t (.sl (x4.kids.map Form.row))]] noOb (.tp [.t (.sl (r.1.map Hit.row)),.t (.sc (.bool r.2))]) noOb
def zf5 (fuel:Nat):Prop:=∀ (x1:Form) (x2:Form) (o1:(List Bind)) (o2:(List Form)) (o3:(List Hit)) (r:(Bool × (List Hit))),zdL fuel x1 x2 o1 o2 o3=some r→AC Tryz.prog 123 [.ag [.t (.sc (.int .i64 x1.kind)),.t (.sc (.str x1.name)),.t (.sc (.int .i64 x1.n)),.t (.sl (x1.scopes.map rI)),.t (.sl (x1.kids.map Form.row))],.ag [.t (.sc (.int .i64 x2.kind)),.t (.sc (.str x2.name)),.t (.sc (.int .i64 x2.n)),.t (.sl (x2.scopes.map rI)),.t (.sl (x2.kids.map Form.row))],.rf 9000 0,.rf 9001 0,.rf 9002 0] (objs [(9000,.box [.t (.sl (o1.map Bind.row))]),(9001,.box [.t (.sl (o2.map Form.row))]),(9002,.box [.ar 9460]),(9460,.arr (o3.map Hit.row) 40 true)]) (.t (.sc (.bool r.1))) (objs [(9000,.box [.t (.sl (o1.map Bind.row))]),(9001,.box [.t (.sl (o2.map Form.row))]),(9002,.box [.ar 10460]),(9460,.dead),(10460,.arr (r.2.map Hit.row) 40 true)])
theorem m_impl_match_st (fu:Nat) (ih_m_impl_match:∀ k,k≤fu→zfR k) (ih_m_impl_match_1:∀ k,k≤fu→zf5 k):zfR (fu+1):=by
 intro x1 x2 x3 x4 r F0
 rw [zcN] at F0
 refine AC_i [.t (.sl (r.1.map Hit.row)),.t (.sc (.bool r.2))] Tryz.func61 rfl Tryz.ntmps61 ?_
 intro C hC
 refine zb (za ?_)
 iterate 4 refine zaN ?_
 refine s_as ?_
 refine s_as ?_
 refine zf (zd (zb (zb (za ?_))))
 refine s_fa zc1 ?_
 refine zu yA3 ?_
 refine zf (zd (zl (zb (za ?_))))
 refine s_eq ?_
 refine s_as ?_
 refine zf (zd ?_)
 refine zm F0 ?_ ?_<;>intro C1 F1
 refine zb (zl (zb (za ?_)))
 refine s_fa zcp ?_
 refine zu yA9 ?_
 refine zhv ?_
 refine s_as ?_
 refine zf (zd ?_)
 refine zm F1 ?_ ?_<;>intro C2 F2
 refine zb (za ?_)
 refine s_as ?_
 refine s_as ?_
 refine zf (zd (zh (zj (zg (zj (zg (zn ?_)))))))
 cases F2
 exact zk [] [] Tryz.results61
 refine zb (za ?_)
 refine zu yA25 ?_
 refine zG yA27 yS27 ?_
 obtain ⟨v3,V3,F3⟩:=zc F2
 refine zv [] (zhr fu _ _ _ V3) ?_
 refine s_as ?_
 refine zf (zd ?_)
 refine zm F3 ?_ ?_<;>intro C4 F4
 refine zb (za ?_)
 refine zu yA23 ?_
 refine zG yA27 yS27 ?_
 refine zG yA27 yS27 ?_
 obtain ⟨v5,V5,F5⟩:=zc F4
 refine zv [] (zjf fu _ _ _ _ V5) ?_
 refine s_as ?_
 refine s_as ?_
 refine zf (zd (zh (zj (zg (zj (zg (zn ?_)))))))
 cases F5
 exact zk [] [] Tryz.results61
 refine zi (zW (zd (zb ?_)))
 refine zP yMix (by kernel_rfl) ?_
 refine zG yA27 yS27 ?_
 obtain ⟨v6,V6,F5⟩:=zc F4
 refine zv [] (zdl fu _ _ V6) ?_
 refine zG yA27 yS27 ?_
 obtain ⟨v7,V7,F6⟩:=zc F5
 refine zv [] (zdl fu _ _ V7) ?_
 refine zgE yZ40 yL40 ?_
 refine s_bs Hit.row [(Hit.mk v6 0 v7 ([]:List Hit))] yP30 yR40 ?_
 refine s_as ?_
 refine s_as ?_
 refine zah (by kernel_rfl) ?_
 refine zd (zh (zj (zg (zn ?_))))
 cases F6
 exact zk [] [49] Tryz.results61
 refine zb (za ?_)
 refine s_eq ?_
 refine s_as ?_
 refine zf (zd ?_)
 refine zm F1 ?_ ?_<;>intro C8 F2
 refine zb (za ?_)
 refine zG yA27 yS27 ?_
 refine zG yA27 yS27 ?_
 obtain ⟨v9,V9,F3⟩:=zc F2
 refine zv [] (zbi fu _ _ _ V9) ?_
 refine s_as ?_
 refine s_as ?_
 refine zf (zd (zh (zj (zg (zn ?_)))))
 cases F3
 exact zk [] [] Tryz.results61
 refine zi (zW (zd (zb (zb (za ?_)))))
 refine s_fa zc1 ?_
 refine zu yA3 ?_
 refine s_ne ?_
 refine zf (zd ?_)
 refine zm F2 ?_ ?_<;>intro C10 F3
 refine zb (za ?_)
 refine s_as ?_
 refine s_as ?_
 refine zf (zd (zh (zg (zn ?_))))
 cases F3
 exact zk [] [] Tryz.results61
 refine zi (zd (zb (za ?_)))
 refine s_bs Hit.row ([]:List Hit) yP30 yR40 ?_
 refine zU yZ30 ?_
 refine zab yS30 ?_
 refine zf (zd (zb (za ?_)))
 refine s_fn ?_
 refine s_as ?_
 refine zf (zd (zb (za ?_)))
 refine s_fa zF ?_
 refine zu yA25 ?_
 obtain ⟨v11,V11,F4⟩:=zc F3
 refine zv [] (m_impl_dotsAt_ok fu _ _ V11) ?_
 refine s_as ?_
 refine zf (zd (zb (zb (za ?_))))
 refine s_mv ?_
 refine s_lt ?_
 refine zf (zd ?_)
 refine zm F4 ?_ ?_<;>intro C12 F5
 refine zb (zb (za ?_))
 refine s_fa zF ?_
 refine zu yA25 ?_
 refine zC yU25 ?_
 refine s_fa zF ?_
 refine zu yA25 ?_
 refine zC yU25 ?_
 refine s_ne ?_
 refine zf (zd ?_)
 refine zm F5 ?_ ?_<;>intro C13 F6
 refine zb (za ?_)
 refine s_as ?_
 refine s_as ?_
 refine zf (zd (zh (zg (zg (zn ?_)))))
 cases F6
 exact zk [] [] Tryz.results61
 refine zi (zd ?_)
 refine za2 (α:=Nat × (List Hit)) [8,9,13,72,73,74,75,76,77,78,79,80,81,82,83,84,85,86,87,88,89,90,91] [10,58,5040] [] (fun a=>[]) (fun a=>[(10,.box [.ar 5040]),(58,.dead),(5040,.arr (a.2.map Hit.row) 40 true)]) (fun a=>a.1≤fu∧zfQ a.1  a.2=some r) ?_ ?_
 refine zb (za ?_)
 refine s_fa zF ?_
 refine zu yA25 ?_
 refine zC yU25 ?_
 refine s_mv ?_
 refine zf (zd (zl ?_))
 refine zeV 10 58 5040 [.ar 5040] ?_
 refine zak [8,9,13,75,76,77,78,79,80,81,82,83,84,85,86,87,88,89,90,91] [10,5040] [42089] [5040] (fun a:Nat × Int × (List Hit)=>a.1) (fun a:Nat × Int × (List Hit)=>[(75,.t (.sc (.int .i64 a.2.1)))]) (fun a:Nat × Int × (List Hit)=>[(10,.box [.ar 5040]),(5040,.arr (a.2.2.map Hit.row) 40 true)]) (fun a:Nat × Int × (List Hit)=>a.1≤fu∧zdf a.1 x1 x2 x3 x4 a.2.1 a.2.2=some r∧0≤a.2.1) (fu,0,([]:List Hit)) ⟨Nat.le_refl _,F6,by simp⟩ (by rfl) (by rfl) (fun _=>rfl) (zI (by conv=>lhs;whnf) (by rfl) zaX) (zL (by conv=>lhs;whnf) (by rfl) (zL (by conv=>lhs;whnf) (by rfl) zaK)) (zbZ hC rfl) (by repeat (first | exact z6 rfl | refine zal rfl ?_ | refine zQ rfl ?_)) (by repeat (first | exact zay | exact zad rfl | refine zam rfl ?_ | refine zR rfl ?_)) ?_
 clear F6
 rintro ⟨fu,g14,g15⟩ ⟨hl16,F7,hn_g14⟩
 dsimp only at hl16 F7 hn_g14 ⊢
 obtain _ | fu:=fu
 · rw [zdf] at F7;cases F7
 rw [zdf] at F7
 refine zb (za ?_)
 refine s_lt ?_
 refine zf (zd (zb ?_))
 refine zm F7 ?_ ?_<;>intro C17 F8
 refine zM 61 (fun B18=>?_)
 refine zi (zd (zb (zl (zb (za ?_)))))
 refine s_mv ?_
 refine s_as ?_
 refine zf (zd (zb ?_))
 refine zP yMix (by kernel_rfl) ?_
 refine s_mv ?_
 refine s_fa zF ?_
 refine zu yA25 ?_
 refine s_mv ?_
 obtain ⟨v19,V19,F9⟩:=zc F8
 refine zK Form.row V19 (Form.row_eq _) yE25 ?_
 refine zai yA27 yS27 ?_
 refine s_fa zF ?_
 refine zu yA25 ?_
 refine s_mv ?_
 obtain ⟨v20,V20,F10⟩:=zc F9
 refine zK Form.row V20 (Form.row_eq _) yE25 ?_
 refine zai yA27 yS27 ?_
 obtain ⟨v21,V21,F11⟩:=zc F10
 refine z4 [(9000,4),(9001,6),(9002,10),(9460,5040),(10460,42089)] [] _ _ (ih_m_impl_match_1 fu (by omega) _ _ _ _ _ _ V21) ?_
 refine zaG ?_
 refine zah (by kernel_rfl) ?_
 refine zd ?_
 refine zm F11 ?_ ?_<;>intro C22 F12
 refine zb (za ?_)
 refine s_as ?_
 refine s_as ?_
 refine zf (zd (zh (zj (zg (zw (zj (zex (zg (zn ?_)))))))))
 cases F12
 exact zk [] [] Tryz.results61
 refine zi (zW (zd (za ?_)))
 refine zJ (zar C17 B18 hn_g14) ?_
 refine s_mv ?_
 refine zf ?_
 exact s_rn (fu,(g14+1),v21.2) ⟨by first | omega | (dsimp only;omega),F12,by first | omega | (dsimp only;omega)⟩ [(5040,42089)]
 refine zz (zq (zp (zr ?_)))
 exact s_jn (fu,g15) ⟨by first | omega | (dsimp only;omega),F8⟩
 clear F6
 rintro ⟨fu,g23⟩ ⟨hl24,F7⟩
 dsimp only at hl24 F7 ⊢
 obtain _ | fu:=fu
 · rw [zfQ] at F7;cases F7
 rw [zfQ] at F7
 refine zb (za ?_)
 refine zu yA30 ?_
 refine s_as ?_
 refine s_as ?_
 refine zf (zd (zh (zg (zn ?_))))
 cases F7
 exact zk [] [5040] Tryz.results61
 refine zi (zd (zb (za ?_)))
 refine s_fa zF ?_
 refine zu yA25 ?_
 refine zC yU25 ?_
 refine s_fa zF ?_
 refine zu yA25 ?_
 refine zC yU25 ?_
 refine zih rfl ?_
 refine zih rfl ?_
 refine s_as ?_
 refine zf (zd (zb (zb (za ?_))))
 refine s_mv ?_
 refine s_lt ?_
 refine zf (zd ?_)
 refine zm F5 ?_ ?_<;>intro C25 F6
 refine zb (za ?_)
 refine s_as ?_
 refine s_as ?_
 refine zf (zd (zh (zg (zn ?_))))
 cases F6
 exact zk [] [] Tryz.results61
 refine zi (zd (zb (za ?_)))
 refine s_mv ?_
 refine zih rfl ?_
 refine s_as ?_
 refine zf (zd ?_)
 refine za2 (α:=Nat × (List Hit)) [8,9,16,105,106,107,108,109,110,111,112,113,114,115,116,117,118,119,120,121,122] [10,58,5080] [] (fun a=>[]) (fun a=>[(10,.box [.ar 5080]),(58,.dead),(5080,.arr (a.2.map Hit.row) 40 true)]) (fun a=>a.1≤fu∧zeF a.1 x1 x2 x3 x4 v11 a.2=some r) ?_ ?_
 refine zb (za ?_)
 refine s_as ?_
 refine zf (zd (zl ?_))
 refine zeV 10 58 5080 [.ar 5080] ?_
 refine zak [8,9,16,105,106,107,108,109,110,111,112,113,114,115,116,117,118,119,120,121,122] [10,5080] [42121] [5080] (fun a:Nat × Int × (List Hit)=>a.1) (fun a:Nat × Int × (List Hit)=>[(16,.t (.sc (.int .i64 a.2.1)))]) (fun a:Nat × Int × (List Hit)=>[(10,.box [.ar 5080]),(5080,.arr (a.2.2.map Hit.row) 40 true)]) (fun a:Nat × Int × (List Hit)=>a.1≤fu∧zde a.1 x1 x2 x3 x4 v11 a.2.1 a.2.2=some r) (fu,0,([]:List Hit)) ⟨Nat.le_refl _,F6⟩ (by rfl) (by rfl) (fun _=>rfl) (zI (by conv=>lhs;whnf) (by rfl) zaX) (zL (by conv=>lhs;whnf) (by rfl) (zL (by conv=>lhs;whnf) (by rfl) zaK)) (zbZ hC rfl) (by repeat (first | exact z6 rfl | refine zal rfl ?_ | refine zQ rfl ?_)) (by repeat (first | exact zay | exact zad rfl | refine zam rfl ?_ | refine zR rfl ?_)) ?_
 clear F6
 rintro ⟨fu,g26,g27⟩ ⟨hl28,F7⟩
 dsimp only at hl28 F7 ⊢
 obtain _ | fu:=fu
 · rw [zde] at F7;cases F7
 rw [zde] at F7
 refine zb (zb (za ?_))
 refine s_mv ?_
 refine s_mv ?_
 refine s_lt ?_
 refine zf (zd ?_)
 refine zm F7 ?_ ?_<;>intro C29 F8
 refine zi (zd (zb (zl (zb ?_))))
 refine zP yMix (by kernel_rfl) ?_
 refine s_mv ?_
 refine s_fa zF ?_
 refine zu yA25 ?_
 refine s_mv ?_
 obtain ⟨v30,V30,F9⟩:=zc F8
 refine zK Form.row V30 (Form.row_eq _) yE25 ?_
 refine zai yA27 yS27 ?_
 refine s_fa zF ?_
 refine zu yA25 ?_
 refine s_mv ?_
 obtain ⟨v31,V31,F10⟩:=zc F9
 refine zK Form.row V31 (Form.row_eq _) yE25 ?_
 refine zai yA27 yS27 ?_
 obtain ⟨v32,V32,F11⟩:=zc F10
 refine z4 [(9000,4),(9001,6),(9002,10),(9460,5080),(10460,42121)] [] _ _ (ih_m_impl_match_1 fu (by omega) _ _ _ _ _ _ V32) ?_
 refine zaG ?_
 refine zah (by kernel_rfl) ?_
 refine zd ?_
 refine zm F11 ?_ ?_<;>intro C33 F12
 refine zb (za ?_)
 refine s_as ?_
 refine s_as ?_
 refine zf (zd (zh (zj (zg (zw (zj (zex (zn ?_))))))))
 cases F12
 exact zk [] [] Tryz.results61
 refine zi (zW (zd (za ?_)))
 refine s_mv ?_
 refine zJ rfl ?_
 refine s_as ?_
 refine zf ?_
 exact s_rn (fu,(w64 (g26+1)),v32.2) ⟨by first | omega | (dsimp only;omega),F12⟩ [(5080,42121)]
 refine zz (zq (zp (zr ?_)))
 exact s_jn (fu,g27) ⟨by first | omega | (dsimp only;omega),F8⟩
 clear F6
 rintro ⟨fu,g34⟩ ⟨hl35,F7⟩
 dsimp only at hl35 F7 ⊢
 obtain _ | fu:=fu
 · rw [zeF] at F7;cases F7
 rw [zeF] at F7
 refine zb ?_
 refine zP yMix (by kernel_rfl) ?_
 refine s_fa zF ?_
 refine zu yA25 ?_
 refine s_mv ?_
 obtain ⟨v36,V36,F8⟩:=zc F7
 refine zK Form.row V36 (Form.row_eq _) yE25 ?_
 refine zai yA27 yS27 ?_
 refine zu yA25 ?_
 obtain ⟨v37,V37,F9⟩:=zc F8
 refine z4 [(9200,2130)] [] _ _ (zhJ fu _ _ _ V37) ?_
 refine s_mv ?_
 refine za4 ?_
 refine za4 ?_
 refine s_as ?_
 refine s_as ?_
 refine zah (by kernel_rfl) ?_
 refine zd (zb (za ?_))
 refine s_bs Hit.row ([]:List Hit) yP30 yR40 ?_
 refine s_as ?_
 refine zf (zd ?_)
 refine awp_toD 133 (Hit.rowO 40) (es:=([]:List Hit).map Hit.row) (by conv=>lhs;whnf) rfl ?_
 refine za2 (α:=Nat × (List Hit)) [19,20,21,134,135,136,137,138,139,140,141,142,143,144,145,146,147,148,149,150,151,152] [133,5120] [] (fun a=>[(19,.ar 5120)]) (fun a=>[(133,.dead),(5120,.dar (a.2.map (Hit.rowO 40)) 40)]) (fun a=>a.1≤fu∧zeE a.1 x1 x2 x3 x4 v11 g34 a.2=some r) ?_ ?_
 refine zb (za ?_)
 refine s_mv ?_
 refine zhc yU25 ?_
 refine s_mv ?_
 refine zf (zd (zl ?_))
 refine awp_mvD 19 133 5120 (by conv=>lhs;whnf) (by conv=>lhs;whnf) rfl ?_
 refine zak [19,20,21,136,137,138,139,140,141,142,143,144,145,146,147,148,149,150,151,152] [5120] [21,150,151] [5120] (fun a:Nat × (List Hit) × Int=>a.1) (fun a:Nat × (List Hit) × Int=>[(19,.ar 5120),(136,.t (.sc (.int .i64 a.2.2)))]) (fun a:Nat × (List Hit) × Int=>[(5120,.dar (a.2.1.map (Hit.rowO 40)) 40)]) (fun a:Nat × (List Hit) × Int=>a.1≤fu∧zcu a.1 x1 x2 x3 x4 v11 g34 v37 a.2.1 a.2.2=some r∧0≤a.2.2) (fu,([]:List Hit),0) ⟨Nat.le_refl _,F9,by simp⟩ (by rfl) (by rfl) (fun _=>rfl) (zI (by conv=>lhs;whnf) (by rfl) (zI (by conv=>lhs;whnf) (by rfl) zaX)) (zL (by conv=>lhs;whnf) (by rfl) zaK) (zbZ hC rfl) (by repeat (first | exact z6 rfl | refine zal rfl ?_ | refine zQ rfl ?_)) (by repeat (first | exact zay | exact zad rfl | refine zam rfl ?_ | refine zR rfl ?_)) ?_
 clear F9
 rintro ⟨fu,g38,g39⟩ ⟨hl40,F10,hn_g39⟩
 dsimp only at hl40 F10 hn_g39 ⊢
 obtain _ | fu:=fu
 · rw [zcu] at F10;cases F10
 rw [zcu] at F10
 refine zb (za ?_)
 refine s_lt ?_
 refine zf (zd (zb ?_))
 refine zm F10 ?_ ?_<;>intro C41 F11
 refine ziw 17 2130 (fun B42=>?_)
 refine zi (zd (zb (zl (zb (za ?_)))))
 refine s_mv ?_
 obtain ⟨v43,V43,F12⟩:=zc F11
 refine ziy Form.row V43 yE25 ?_
 refine s_lAN Form.row V43 (Form.row_eq _) yA27 yS27 ?_
 refine zU yZ27 ?_
 refine s_as ?_
 refine zab yS27 ?_
 refine zf (zd ?_)
 refine zP yMix (by kernel_rfl) ?_
 refine s_mv ?_
 refine zG yA27 yS27 ?_
 obtain ⟨v44,V44,F13⟩:=zc F12
 refine zv [] (zdl fu _ _ V44) ?_
 refine s_mv ?_
 refine s_mv ?_
 obtain ⟨v45,V45,F14⟩:=zc F13
 refine zK rI V45 rfl yE24 ?_
 refine zu yA3 ?_
 refine zJ rfl ?_
 refine s_bldN 11 40 yZ40 yL40 ?_
 refine s_bs (Hit.rowN 40) [(Hit.mk v44 (w64 (v45+1)) (Form.mk 0 (⟨#[]⟩:ByteArray) 0 ([]:List Int) ([]:List Form)) ([]:List Hit))] yP30 yR40 ?_
 obtain ⟨hk46,F15⟩:=zac F14
 refine s_apD (Hit.rowO 40) (Hit.rowN 40) (Hit.rowN_nis yS40) (fun _=>rfl) rfl hk46 yP30 ?_
 refine s_as ?_
 refine zah (by kernel_rfl) ?_
 refine zW (zd (za ?_))
 refine zJ (zar C41 B42 hn_g39) ?_
 refine s_mv ?_
 refine zf ?_
 exact s_rn (fu,(g38++[(Hit.mk v44 (w64 (v45+1)) (Form.mk 0 (⟨#[]⟩:ByteArray) 0 ([]:List Int) ([]:List Form)) ([]:List Hit))]),(g39+1)) ⟨by first | omega | (dsimp only;omega),F15,by first | omega | (dsimp only;omega)⟩ [(5120,151)]
 refine zz (zq (zp (zr ?_)))
 exact s_jn (fu,g38) ⟨by first | omega | (dsimp only;omega),F11⟩
 clear F9
 rintro ⟨fu,g47⟩ ⟨hl48,F10⟩
 dsimp only at hl48 F10 ⊢
 obtain _ | fu:=fu
 · rw [zeE] at F10;cases F10
 rw [zeE] at F10
 refine za2 (α:=Nat × (List Hit)) [8,9,23,24,25,26,153,154,155,156,157,158,159,160,161,162,163,164,165,166,167,168,169,170,171,172,173,174,175,176,177,178,179,180,181,182,183,184,185,186,187,188,189,190,191,192,193,194,195,196,197,198,199,200] [5120] [] (fun a=>[]) (fun a=>[(5120,.dar (a.2.map (Hit.rowO 40)) 40)]) (fun a=>a.1≤fu∧zdV a.1 x1 x2 x3 x4 v11 g34 a.2=some r) ?_ ?_
 refine zb (za ?_)
 refine s_fa zF ?_
 refine zu yA25 ?_
 iterate 3 refine s_mv ?_
 refine zJ rfl ?_
 obtain ⟨v49,V49,F11⟩:=zc F10
 refine s_sl11 Form.row (fun y=>Form.row_len y) V49 yU25 yE25 ?_
 refine zC yU25 ?_
 refine s_mv ?_
 refine zf (zd (zl ?_))
 refine zaP (β:=Int × (List Hit)) [8,9,23,24,25,26,161,162,163,164,165,166,167,168,169,170,171,172,173,174,175,176,177,178,179,180,181,182,183,184,185,186,187,188,189,190,191,192,193,194,195,196,197,198,199,200] [5120] [23] (fun a=>[(161,.t (.sc (.int .i64 a.2.1)))]) (fun a=>[(5120,.dar (a.2.2.map (Hit.rowO 40)) 40)]) (fun a=>a.1≤fu∧zb6 a.1 x1 x2 x3 x4 v11 g34 v49 a.2.1 a.2.2=some r) (fu,0,g47) ⟨Nat.le_refl _,F11⟩ ?_
 clear F11
 rintro ⟨fu,g50,g51⟩ ⟨hl52,F12⟩
 dsimp only at hl52 F12 ⊢
 obtain _ | fu:=fu
 · rw [zb6] at F12;cases F12
 rw [zb6] at F12
 refine zb (za ?_)
 refine s_lt ?_
 refine zf (zd (zb ?_))
 refine zm F12 ?_ ?_<;>intro C53 F13
 refine zM 159 (fun B54=>?_)
 refine zi (zd (zb (zl (zb (za ?_)))))
 obtain ⟨v55,V55,F14⟩:=zc F13
 refine zK Form.row V55 (Form.row_eq _) yE25 ?_
 refine zai yA27 yS27 ?_
 refine zU yZ27 ?_
 refine zab yS27 ?_
 refine zf (zd (zb ?_))
 refine zP yMix (by kernel_rfl) ?_
 refine zu yA23 ?_
 refine s_fa zF ?_
 refine zu yA25 ?_
 refine s_mv ?_
 obtain ⟨v56,V56,F15⟩:=zc F14
 refine zK Form.row V56 (Form.row_eq _) yE25 ?_
 refine zai yA27 yS27 ?_
 refine zu yA25 ?_
 refine zG yA27 yS27 ?_
 obtain ⟨v57,V57,F16⟩:=zc F15
 refine zv [] (ih_m_impl_match fu (by omega) _ _ _ _ _ V57) ?_
 refine s_mv ?_
 refine za4 ?_
 refine za4 ?_
 refine s_as ?_
 refine s_as ?_
 refine zah (by kernel_rfl) ?_
 refine zd (zb (zb (za ?_)))
 refine s_mv ?_
 refine zaG ?_
 refine zf (zd ?_)
 refine zm F16 ?_ ?_<;>intro C58 F17
 refine zb (za ?_)
 refine s_as ?_
 refine s_as ?_
 refine zf (zd (zh (zg (zj (zg (zw (zj (zex (zn ?_)))))))))
 cases F17
 exact zk [] [] Tryz.results61
 refine zi (zd (zb (za ?_)))
 refine s_mv ?_
 refine s_lenD yU30 ?_
 refine s_mv ?_
 refine zf (zd (zl ?_))
 refine zaP (β:=Int × (List Hit)) [26,181,182,183,184,185,186,187,188,189,190,191,192,193,194,195,196,197,198,199] [5120] [188,194,195] (fun a=>[(181,.t (.sc (.int .i64 a.2.1)))]) (fun a=>[(5120,.dar (a.2.2.map (Hit.rowO 40)) 40)]) (fun a=>a.1≤fu∧zct a.1 x1 x2 x3 x4 v11 g34 v49 g50 g51 v57 a.2.1 a.2.2=some r) (fu,0,g51) ⟨Nat.le_refl _,F17⟩ ?_
 clear F17
 rintro ⟨fu,g59,g60⟩ ⟨hl61,F18⟩
 dsimp only at hl61 F18 ⊢
 obtain _ | fu:=fu
 · rw [zct] at F18;cases F18
 rw [zct] at F18
 refine zb (za ?_)
 refine s_lt ?_
 refine zf (zd (zb ?_))
 refine zm F18 ?_ ?_<;>intro C62 F19
 refine zi (zd (zb (zl (zb (za ?_)))))
 refine s_mv ?_
 refine s_as ?_
 refine zf (zd ?_)
 refine zP yMix (by kernel_rfl) ?_
 refine s_mv ?_
 refine s_mv ?_
 obtain ⟨v63,V63,F20⟩:=zc F19
 refine s_ixD (Hit.rowO 40) V63 yE30 ?_
 refine s_fa ziE ?_
 refine s_ldD (Hit.rowO 40) Hit.row v63.many Hit.row_plain V63 yA30 yS40 ?_
 refine s_mv ?_
 refine s_mv ?_
 obtain ⟨v64,V64,F21⟩:=zc F20
 refine zK Hit.row V64 (Hit.row_eq _) yE30 ?_
 refine zai yA40 yS40 ?_
 refine zhc yU30 ?_
 refine s_bs Hit.row [(Hit.mk (Form.mk 0 (⟨#[]⟩:ByteArray) 0 ([]:List Int) ([]:List Form)) 0 (Form.mk 0 (⟨#[]⟩:ByteArray) 0 ([]:List Int) ([]:List Form)) ([]:List Hit))] yP30 yR40 ?_
 obtain ⟨hk65,F22⟩:=zac F21
 refine zel Hit.row (fun y=>Hit.row_len y) hk65 yP30 ?_
 obtain ⟨v66,V66,F23⟩:=zc F22
 refine ziy Hit.row V66 yE30 ?_
 refine s_stA Hit.row v64 V66 (Hit.row_eq _) (Hit.row_eq _) yS40 yS40 ?_
 obtain ⟨v67,V67,F24⟩:=zc F23
 refine s_ixH (Hit.rowO 40) V67 yE30 ?_
 refine s_fa ziE ?_
 refine s_stD (Hit.rowO 40) V63 yS30 yS40 ?_
 refine zah (by kernel_rfl) ?_
 refine zW (zd ?_)
 refine awp_jnD 5120 195 12 (Hit.rowO 40) Hit.row (Hit.mk v63.name v63.depth v63.one ((v63.many++[(Hit.mk (Form.mk 0 (⟨#[]⟩:ByteArray) 0 ([]:List Int) ([]:List Form)) 0 (Form.mk 0 (⟨#[]⟩:ByteArray) 0 ([]:List Int) ([]:List Form)) ([]:List Hit))]).set (v63.many.length:Int).toNat v64)) ((v63.many++[(Hit.mk (Form.mk 0 (⟨#[]⟩:ByteArray) 0 ([]:List Int) ([]:List Form)) 0 (Form.mk 0 (⟨#[]⟩:ByteArray) 0 ([]:List Int) ([]:List Form)) ([]:List Hit))]).set (v63.many.length:Int).toNat v64) V63 rfl ?_
 refine za ?_
 refine zJ rfl ?_
 refine s_mv ?_
 refine zf ?_
 exact s_rn (fu,(w64 (g59+1)),(g60.set g59.toNat (Hit.mk v63.name v63.depth v63.one ((v63.many++[(Hit.mk (Form.mk 0 (⟨#[]⟩:ByteArray) 0 ([]:List Int) ([]:List Form)) 0 (Form.mk 0 (⟨#[]⟩:ByteArray) 0 ([]:List Int) ([]:List Form)) ([]:List Hit))]).set (v63.many.length:Int).toNat v64)))) ⟨by first | omega | (dsimp only;omega),F24⟩
 refine zz (zq (zp (zr (zW (zd (za ?_))))))
 refine zJ rfl ?_
 refine s_mv ?_
 refine zf ?_
 exact s_rn (fu,(w64 (g50+1)),g60) ⟨by first | omega | (dsimp only;omega),F19⟩
 refine zz (zq (zp (zr ?_)))
 exact s_jn (fu,g51) ⟨by first | omega | (dsimp only;omega),F13⟩
 clear F10
 rintro ⟨fu,g68⟩ ⟨hl69,F11⟩
 dsimp only at hl69 F11 ⊢
 obtain _ | fu:=fu
 · rw [zdV] at F11;cases F11
 rw [zdV] at F11
 refine zb ?_
 refine awp_fzD 5120 Hit.row (Hit.rowO 40) (Hit.rowO_fzB 40) (Hit.rowO_fzT 40) (by conv=>lhs;whnf) ?_
 refine za ?_
 refine zu yA30 ?_
 refine s_mv ?_
 obtain ⟨hk70,F12⟩:=zac F11
 refine zel Hit.row (fun y=>Hit.row_len y) hk70 yP30 ?_
 refine zab yS30 ?_
 refine zf (zd (zb (zb (za ?_))))
 refine s_mv ?_
 refine zJ rfl ?_
 refine s_as ?_
 refine zf (zd (zl ?_))
 refine zeV 10 203 5200 [.ar 5200] ?_
 refine zak [8,9,27,206,207,208,209,210,211,212,213,214,215,216,217,218,219,220,221,222,223,224,225,226,227,228,229,230,231,232] [10,5200] [42231] [5200] (fun a:Nat × Int × (List Hit)=>a.1) (fun a:Nat × Int × (List Hit)=>[(27,.t (.sc (.int .i64 a.2.1)))]) (fun a:Nat × Int × (List Hit)=>[(10,.box [.ar 5200]),(5200,.arr (a.2.2.map Hit.row) 40 true)]) (fun a:Nat × Int × (List Hit)=>a.1≤fu∧zcM a.1 x1 x2 x3 x4 v11 a.2.1 a.2.2=some r) (fu,(w64 (v11+1)),(g34++g68)) ⟨Nat.le_refl _,F12⟩ (by rfl) (by rfl) (fun _=>rfl) (zI (by conv=>lhs;whnf) (by rfl) zaX) (zL (by conv=>lhs;whnf) (by rfl) (zL (by conv=>lhs;whnf) (by rfl) zaK)) (zbZ hC rfl) (by repeat (first | exact z6 rfl | refine zal rfl ?_ | refine zQ rfl ?_)) (by repeat (first | exact zay | exact zad rfl | refine zam rfl ?_ | refine zR rfl ?_)) ?_
 clear F12
 rintro ⟨fu,g71,g72⟩ ⟨hl73,F13⟩
 dsimp only at hl73 F13 ⊢
 obtain _ | fu:=fu
 · rw [zcM] at F13;cases F13
 rw [zcM] at F13
 refine zb (zb (za ?_))
 refine s_mv ?_
 refine s_fa zF ?_
 refine zu yA25 ?_
 refine zC yU25 ?_
 refine s_lt ?_
 refine zf (zd ?_)
 refine zm F13 ?_ ?_<;>intro C74 F14
 refine zM 61 (fun B75=>?_)
 refine zi (zd (zb (zl (zb ?_))))
 refine zP yMix (by kernel_rfl) ?_
 refine s_mv ?_
 refine s_fa zF ?_
 refine zu yA25 ?_
 refine s_mv ?_
 obtain ⟨v76,V76,F15⟩:=zc F14
 refine zK Form.row V76 (Form.row_eq _) yE25 ?_
 refine zai yA27 yS27 ?_
 refine s_fa zF ?_
 refine zu yA25 ?_
 refine s_mv ?_
 refine s_mv ?_
 refine zJ rfl ?_
 refine s_mv ?_
 refine zJ rfl ?_
 refine s_mv ?_
 refine zih rfl ?_
 refine zih rfl ?_
 obtain ⟨v77,V77,F16⟩:=zc F15
 refine zK Form.row V77 (Form.row_eq _) yE25 ?_
 refine zai yA27 yS27 ?_
 obtain ⟨v78,V78,F17⟩:=zc F16
 refine z4 [(9000,4),(9001,6),(9002,10),(9460,5200),(10460,42231)] [] _ _ (ih_m_impl_match_1 fu (by omega) _ _ _ _ _ _ V78) ?_
 refine zaG ?_
 refine zah (by kernel_rfl) ?_
 refine zd ?_
 refine zm F17 ?_ ?_<;>intro C79 F18
 refine zb (za ?_)
 refine s_as ?_
 refine s_as ?_
 refine zf (zd (zh (zj (zg (zw (zj (zg (zn ?_))))))))
 cases F18
 exact zk [] [] Tryz.results61
 refine zi (zW (zd (za ?_)))
 refine s_mv ?_
 refine zJ (zar C74 B75 (zdF V76).1) ?_
 refine s_as ?_
 refine zf ?_
 exact s_rn (fu,(g71+1),v78.2) ⟨by first | omega | (dsimp only;omega),F18⟩ [(5200,42231)]
 refine zz (zq (zp (zr (zd (zb (za ?_))))))
 refine zu yA30 ?_
 refine s_as ?_
 refine s_as ?_
 refine zf (zd (zh (zn ?_)))
 cases F14
 exact zk [] [5200] Tryz.results61
end Go.Abs
