/- A part of the proof: what the functions that the law calls answer, as pure values. -/
import Derived.Test.YtilpcjgklfjdgaaGreatK507300621f75
import Derived.Test.YtilpcjgklfjdgaaGreatK3a0aab826f7f
import Derived.Test.YtilpcjgklfjdgaaGreatK02761e71a3bf
import Derived.Test.YtilpcjgklfjdgaaGreatK9efcb668ea7a
import Derived.Test.YtilpcjgklfjdgaaGreatKdffc992aa3d2
import Derived.Test.YtilpcjgklfjdgaaGreatK31aba571949d
import Derived.Test.YtilpcjgklfjdgaaGreatK72faf99baa6f
import Derived.Test.YtilpcjgklfjdgaaGreatKc37a1ce4a4bd
set_option linter.unusedSimpArgs false
set_option linter.unusedVariables false
set_option maxRecDepth 100000
set_option maxHeartbeats 4000000
namespace Go.Abs
open Go.Proofs
theorem m_spec_l5Fill_all (fuel : Nat) : zfu fuel := by
 induction fuel using Nat.strongRecOn with
 | _ N ih =>
   cases N with
   | zero => exact (by intro x1 x2 r h; rw [zc9] at h; cases h)
   | succ fu => exact m_spec_l5Fill_st fu (fun k hk => (ih k (by omega)))
theorem m_spec_l5Fill_ok (fuel : Nat) : zfu fuel := (m_spec_l5Fill_all fuel)
def m_spec_FillTemplate_AC (fuel : Nat) : Prop := ∀ (x1 : Form) (x2 : (List Hit)) (r : (Form × Bool)), zdp fuel x1 x2 = some r → AC Tryz.prog 18 [.ag [.t (.sc (.int .i64 x1.kind)), .t (.sc (.str x1.name)), .t (.sc (.int .i64 x1.n)), .t (.sl (x1.scopes.map rI)), .t (.sl (x1.kids.map Form.row))], .t (.sl (x2.map Hit.row))] noOb (.tp [.ag [.t (.sc (.int .i64 r.1.kind)), .t (.sc (.str r.1.name)), .t (.sc (.int .i64 r.1.n)), .t (.sl (r.1.scopes.map rI)), .t (.sl (r.1.kids.map Form.row))], .t (.sc (.bool r.2))]) noOb
theorem m_spec_FillTemplate_ok (fuel : Nat) : m_spec_FillTemplate_AC fuel := by
 intro x1 x2 r F0
 unfold zdp at F0
 refine AC_i [.ag [.t (.sc (.int .i64 r.1.kind)), .t (.sc (.str r.1.name)), .t (.sc (.int .i64 r.1.n)), .t (.sl (r.1.scopes.map rI)), .t (.sl (r.1.kids.map Form.row))], .t (.sc (.bool r.2))] Tryz.func18 rfl Tryz.ntmps18 ?_
 intro C hC
 refine zb (za ?_)
 refine za5 ?_
 refine z5 yZ32 ?_
 refine s_as ?_
 refine zf (zd (zb (za ?_)))
 refine zI yA32 yS32 ?_
 obtain ⟨v1, V1, F1⟩ := zc F0
 refine zv [] (m_spec_l15OwnForm_ok fuel _ _ V1) ?_
 refine zad yS32 ?_
 refine zf (zd (zb (zb (za ?_))))
 refine zI yA32 yS32 ?_
 refine s_mv ?_
 obtain ⟨v2, V2, F2⟩ := zc F1
 refine zv [] (zhK fuel _ _ _ V2) ?_
 refine zbC ?_
 refine zf (zd ?_)
 refine zm F2 ?_ ?_ <;> intro C3 F3
 refine zb (za ?_)
 refine zeP yZ32 yL32 ?_
 refine zad yS32 ?_
 refine s_as ?_
 refine zf (zd (zh (zg (zn ?_))))
 cases F3
 exact zK [] [] (by rw [Tryz.results18]; exact (z8 (by conv => lhs; whnf) (by conv => lhs; whnf) yA32 yS32 rfl (zaf (by conv => lhs; whnf) zX)))
 refine zi (zd (zb (za ?_)))
 refine zI yA32 yS32 ?_
 refine s_mv ?_
 obtain ⟨v4, V4, F4⟩ := zc F3
 refine zv [] (m_spec_l5Fill_ok fuel _ _ _ V4) ?_
 refine s_mv ?_
 refine zcA ?_
 refine zcA ?_
 refine z5 yZ32 ?_
 refine zad yS32 ?_
 refine s_as ?_
 refine zf (zd (zb (zb (za ?_))))
 refine s_mv ?_
 refine zbC ?_
 refine s_mv ?_
 refine zr _ 23 F4 ?_ ?_ <;> intro C5 F5
 iterate 3 refine r_no rfl ?_
 refine zA ?_
 refine zf (zd (zO rfl (zb (za ?_))))
 refine zeP yZ32 yL32 ?_
 refine zad yS32 ?_
 refine s_as ?_
 refine zf (zd (zh (zg (zn ?_))))
 cases F5
 exact zK [] [] (by rw [Tryz.results18]; exact (z8 (by conv => lhs; whnf) (by conv => lhs; whnf) yA32 yS32 rfl (zaf (by conv => lhs; whnf) zX)))
 refine zI yA32 yS32 ?_
 obtain ⟨v6, V6, F6⟩ := zc F5
 refine zv [] (zaL fuel _ _ V6) ?_
 refine zbC ?_
 refine zB ?_
 refine zf (zd ?_)
 refine zm F6 ?_ ?_ <;> intro C7 F7
 refine zb (za ?_)
 refine zeP yZ32 yL32 ?_
 refine zad yS32 ?_
 refine s_as ?_
 refine zf (zd (zh (zg (zn ?_))))
 cases F7
 exact zK [] [] (by rw [Tryz.results18]; exact (z8 (by conv => lhs; whnf) (by conv => lhs; whnf) yA32 yS32 rfl (zaf (by conv => lhs; whnf) zX)))
 refine zi (zd (zb (za ?_)))
 refine zI yA32 yS32 ?_
 refine zad yS32 ?_
 refine s_as ?_
 refine zf (zd (zh (zn ?_)))
 cases F7
 exact zK [] [] (by rw [Tryz.results18]; exact (z8 (by conv => lhs; whnf) (by conv => lhs; whnf) yA32 yS32 rfl (zaf (by conv => lhs; whnf) zX)))
def zhx (fuel : Nat) : Prop := ∀ (x1 : (List ByteArray)) (x2 : ByteArray) (r : Int), zdE fuel x1 x2 = some r → AC Tryz.prog 106 [.t (.sl (x1.map rS)), .t (.sc (.str x2))] noOb (.t (.sc (.int .i64 r))) noOb
theorem zhw (fuel : Nat) : zhx fuel := by
 intro x1 x2 r F0
 unfold zdE at F0
 refine AC_i [.t (.sc (.int .i64 r))] Tryz.func106 rfl Tryz.ntmps106 ?_
 intro C hC
 refine zb (za ?_)
 refine s_as ?_
 refine zf (zd (zb (zb (za ?_))))
 refine s_mv ?_
 refine zD yU51 ?_
 refine s_mv ?_
 refine zf (zd (zk ?_))
 refine zaX (β := Int) [4, 5, 8, 9, 10, 11, 12, 13, 14, 15, 16, 17, 18] [] [] (fun a => [(8, .t (.sc (.int .i64 a.2)))]) (fun a => []) (fun a => a.1 ≤ fuel ∧ zaV a.1 x1 x2 a.2 = some r ∧ 0 ≤ a.2) (fuel, 0) ⟨Nat.le_refl _, F0, by simp⟩ ?_
 clear F0
 rintro ⟨fu, g1⟩ ⟨hl2, F1, hn_g1⟩
 dsimp only at hl2 F1 hn_g1 ⊢
 obtain _ | fu := fu
 · rw [zaV] at F1; cases F1
 rw [zaV] at F1
 refine zb (za ?_)
 refine s_lt ?_
 refine zf (zd (zb ?_))
 refine zm F1 ?_ ?_ <;> intro C3 F2
 refine zQ 0 (fun B4 => ?_)
 refine zi (zd (zb (zk (zb (za ?_)))))
 refine s_mv ?_
 refine s_as ?_
 refine zf (zd (zb (za ?_)))
 iterate 3 refine s_mv ?_
 obtain ⟨v5, V5, F3⟩ := zc F2
 refine zN rS V5 rfl yE51 ?_
 refine zu yA9 ?_
 refine zg6 ?_
 refine zf (zd ?_)
 refine zm F3 ?_ ?_ <;> intro C6 F4
 refine zb (za ?_)
 refine s_mv ?_
 refine s_as ?_
 refine zf (zd (zh (zj (zg (zx (zj (zg (zn ?_))))))))
 cases F4
 exact zl [] [] Tryz.results106
 refine zi (z4 (zd (za ?_)))
 refine zM (zaA C3 B4 hn_g1) ?_
 refine s_mv ?_
 refine zf ?_
 exact s_rn (fu, (g1 + 1)) ⟨by first | omega | (dsimp only; omega), F4, by first | omega | (dsimp only; omega)⟩
 refine zz (zp (zo (zq (zd (zb (za ?_))))))
 refine s_as ?_
 refine zf (zd (zh (zn ?_)))
 cases F2
 exact zl [] [] Tryz.results106
def zgY (fuel : Nat) : Prop := ∀ (x1 : (List ByteArray)) (x2 : ByteArray) (r : Bool), zb0 fuel x1 x2 = some r → AC Tryz.prog 52 [.t (.sl (x1.map rS)), .t (.sc (.str x2))] noOb (.t (.sc (.bool r))) noOb
theorem zgX (fuel : Nat) : zgY fuel := by
 intro x1 x2 r F0
 unfold zb0 at F0
 refine AC_i [.t (.sc (.bool r))] Tryz.func52 rfl Tryz.ntmps52 ?_
 intro C hC
 refine zb (za ?_)
 refine s_as ?_
 refine zf (zd (zb (za ?_)))
 refine s_mv ?_
 refine s_mv ?_
 obtain ⟨v1, V1, F1⟩ := zc F0
 refine zv [] (zhw fuel _ _ _ V1) ?_
 refine s_ge ?_
 refine s_as ?_
 refine zf (zd (zh (zn ?_)))
 cases F1
 exact zl [] [] Tryz.results52
def m_impl_NamesOf_1_AC (fuel : Nat) : Prop := ∀ (x1 : Form) (o1 : (List ByteArray)) (r : (List ByteArray)), zex fuel x1 o1 = some r → AC Tryz.prog 51 [.ag [.t (.sc (.int .i64 x1.kind)), .t (.sc (.str x1.name)), .t (.sc (.int .i64 x1.n)), .t (.sl (x1.scopes.map rI)), .t (.sl (x1.kids.map Form.row))], .rf 9000 0] (objs [(9000, .box [.ar 9420]), (9420, .arr (o1.map rS) 9 false)]) (.tp []) (objs [(9000, .box [.ar 10420]), (9420, .dead), (10420, .arr (r.map rS) 9 false)])
theorem m_impl_NamesOf_1_ok (fuel : Nat) : m_impl_NamesOf_1_AC fuel := by
 intro x1 o1 r F0
 unfold zex at F0
 refine AC_i [] Tryz.func51 rfl Tryz.ntmps51 ?_
 intro C hC
 refine awp_thw ?_
 refine zb (za ?_)
 refine za5 ?_
 refine zf (zd (zb (za ?_)))
 refine s_fa zc2 ?_
 refine zu yA3 ?_
 refine s_eq ?_
 refine s_mv ?_
 refine zr _ 6 F0 ?_ ?_ <;> intro C1 F1
 refine zu yA51 ?_
 refine s_fa zda ?_
 refine zu yA9 ?_
 obtain ⟨v2, V2, F2⟩ := zc F1
 refine zv [9420] (zgX fuel _ _ _ V2) ?_
 refine zbC ?_
 refine zA ?_
 refine zf (zd ?_)
 refine zm F2 ?_ ?_ <;> intro C3 F3
 refine za ?_
 refine zu yA51 ?_
 refine s_fa zda ?_
 refine zu yA9 ?_
 refine s_bs rS [x1.name] yP51 yR9 ?_
 obtain ⟨hk4, F4⟩ := zah F3
 refine s_apF rS (fun _ => rfl) hk4 yP51 ?_
 refine zad yS51 ?_
 refine zf ?_
 refine thw_mvB 9000 17 10420 [.ar 10420] ?_
 refine thw_kill 9420 rfl ?_
 refine thw_id ?_
 refine zfp ?_
 cases F4
 exact zl _ [] Tryz.results51
 refine zg3 9000 9420 10420 [.ar 10420] ?_
 refine zi ?_
 refine thw_id ?_
 refine zfp ?_
 cases F3
 exact zl _ [] Tryz.results51
 iterate 5 refine r_no rfl ?_
 refine zB ?_
 refine zf (zd (zaK rfl ?_))
 refine zg3 9000 9420 10420 [.ar 10420] ?_
 refine zi ?_
 refine thw_id ?_
 refine zfp ?_
 cases F1
 exact zl _ [] Tryz.results51
def zb3 (fuel : Nat) : Prop := ∀ (x1 : Form) (o1 : (List ByteArray)) (r : (List ByteArray)), zaM fuel x1 o1 = some r → AC Tryz.prog 50 [.ag [.t (.sc (.int .i64 x1.kind)), .t (.sc (.str x1.name)), .t (.sc (.int .i64 x1.n)), .t (.sl (x1.scopes.map rI)), .t (.sl (x1.kids.map Form.row))], .fn 51 [.rf 9000 0]] (objs [(9000, .box [.ar 9420]), (9420, .arr (o1.map rS) 9 false)]) (.tp []) (objs [(9000, .box [.ar 10420]), (9420, .dead), (10420, .arr (r.map rS) 9 false)])
theorem zgM (fu : Nat) (ih_m_impl_eachForm_NamesOf_1 : ∀ k, k ≤ fu → zb3 k) : zb3 (fu + 1) := by
 intro x1 o1 r F0
 rw [zaM] at F0
 refine AC_i [] Tryz.func50 rfl Tryz.ntmps50 ?_
 intro C hC
 refine zb (za ?_)
 refine za5 ?_
 refine zf (zd (zb (za ?_)))
 refine s_mv ?_
 refine zI yA32 yS32 ?_
 obtain ⟨v1, V1, F1⟩ := zc F0
 refine zY [(9000, 9000), (9420, 9420), (10420, 22008)] [] _ _ (m_impl_NamesOf_1_ok fu _ _ _ V1) ?_
 refine zf (zd (zb (za ?_)))
 refine s_fa zH ?_
 refine zu yA24 ?_
 refine zD yU24 ?_
 refine s_mv ?_
 refine zf (zd (zk ?_))
 refine zg3 9000 22008 5020 [.ar 5020] ?_
 refine zao [5, 12, 13, 14, 15, 16, 17, 18, 19] [5020, 9000] [5, 22018] [5020] (fun a : Nat × Int × (List ByteArray) => a.1) (fun a : Nat × Int × (List ByteArray) => [(12, .t (.sc (.int .i64 a.2.1)))]) (fun a : Nat × Int × (List ByteArray) => [(5020, .arr (a.2.2.map rS) 9 false), (9000, .box [.ar 5020])]) (fun a : Nat × Int × (List ByteArray) => a.1 ≤ fu ∧ zal a.1 x1 a.2.1 a.2.2 = some r ∧ 0 ≤ a.2.1) (fu, 0, v1) ⟨Nat.le_refl _, F1, by simp⟩ (by rfl) (by rfl) (fun _ => rfl) (zG (by conv => lhs; whnf) (by rfl) za4) (zR (by conv => lhs; whnf) (by rfl) (zR (by conv => lhs; whnf) (by rfl) zaR)) (zbV hC rfl) (by repeat (first | exact zab rfl | refine zam rfl ?_ | refine zV rfl ?_)) (by repeat (first | exact zaD | exact zai rfl | refine zan rfl ?_ | refine zW rfl ?_)) ?_
 clear F1
 rintro ⟨fu, g2, g3⟩ ⟨hl4, F2, hn_g2⟩
 dsimp only at hl4 F2 hn_g2 ⊢
 obtain _ | fu := fu
 · rw [zal] at F2; cases F2
 rw [zal] at F2
 refine zb (za ?_)
 refine s_lt ?_
 refine zf (zd (zb ?_))
 refine zm F2 ?_ ?_ <;> intro C5 F3
 refine zQ 10 (fun B6 => ?_)
 refine zi (zd (zb (zk (zb (za ?_)))))
 obtain ⟨v7, V7, F4⟩ := zc F3
 refine zN Form.row V7 (Form.row_eq _) yE24 ?_
 refine zar yA32 yS32 ?_
 refine z5 yZ32 ?_
 refine zad yS32 ?_
 refine zf (zd (za ?_))
 refine zI yA32 yS32 ?_
 refine s_mv ?_
 obtain ⟨v8, V8, F5⟩ := zc F4
 refine zY [(9000, 9000), (9420, 5020), (10420, 22018)] [] _ _ (ih_m_impl_eachForm_NamesOf_1 fu (by omega) _ _ _ V8) ?_
 refine zf (z4 (zd (za ?_)))
 refine zM (zaA C5 B6 hn_g2) ?_
 refine s_mv ?_
 refine zf ?_
 exact s_rn (fu, (g2 + 1), v8) ⟨by first | omega | (dsimp only; omega), F5, by first | omega | (dsimp only; omega)⟩ [(5020, 22018)]
 refine zg3 9000 5020 10420 [.ar 10420] ?_
 refine zz (zp (zo (zq (zfp ?_))))
 cases F3
 exact zl _ [] Tryz.results50
theorem zgA (fuel : Nat) : zb3 fuel := by
 induction fuel using Nat.strongRecOn with
 | _ N ih =>
   cases N with
   | zero => exact (by intro x1 o1 r h; rw [zaM] at h; cases h)
   | succ fu => exact zgM fu (fun k hk => (ih k (by omega)))
theorem zgN (fuel : Nat) : zb3 fuel := (zgA fuel)
def m_impl_NamesOf_AC (fuel : Nat) : Prop := ∀ (x1 : Form) (r : (List ByteArray)), zfn fuel x1 = some r → AC Tryz.prog 21 [.ag [.t (.sc (.int .i64 x1.kind)), .t (.sc (.str x1.name)), .t (.sc (.int .i64 x1.n)), .t (.sl (x1.scopes.map rI)), .t (.sl (x1.kids.map Form.row))]] noOb (.t (.sl (r.map rS))) noOb
theorem m_impl_NamesOf_ok (fuel : Nat) : m_impl_NamesOf_AC fuel := by
 intro x1 r F0
 unfold zfn at F0
 refine AC_i [.t (.sl (r.map rS))] Tryz.func21 rfl Tryz.ntmps21 ?_
 intro C hC
 refine zb (za ?_)
 refine za5 ?_
 refine s_as ?_
 refine zf (zd (zb (za ?_)))
 refine s_bs rS ([] : List ByteArray) yP51 yR9 ?_
 refine z5 yZ51 ?_
 refine zad yS51 ?_
 refine zf (zd (zb ?_))
 refine awp_frz 4 (by conv => lhs; whnf) ?_
 refine za ?_
 refine zI yA32 yS32 ?_
 refine s_fn ?_
 obtain ⟨v1, V1, F1⟩ := zc F0
 refine zY [(9000, 3), (9420, 4), (10420, 22007)] [] _ _ (zgN fuel _ _ _ V1) ?_
 refine zf (zd (zb (za ?_)))
 refine zu yA51 ?_
 refine s_as ?_
 refine zf (zd (zh (zn ?_)))
 cases F1
 exact zl [] [22007] Tryz.results21
def m_laws_mxHasText_AC (fuel : Nat) : Prop := ∀ (x1 : (List ByteArray)) (x2 : ByteArray) (r : Bool), zev fuel x1 x2 = some r → AC Tryz.prog 20 [.t (.sl (x1.map rS)), .t (.sc (.str x2))] noOb (.t (.sc (.bool r))) noOb
theorem m_laws_mxHasText_ok (fuel : Nat) : m_laws_mxHasText_AC fuel := by
 intro x1 x2 r F0
 unfold zev at F0
 refine AC_i [.t (.sc (.bool r))] Tryz.func20 rfl Tryz.ntmps20 ?_
 intro C hC
 refine zb (za ?_)
 refine s_as ?_
 refine zf (zd (zb (zb (za ?_))))
 refine s_as ?_
 refine zf (zd (zk ?_))
 refine zaX (β := Int) [4, 5, 6, 7, 8, 9, 10, 11, 12, 13, 14, 15, 16, 17] [] [] (fun a => [(5, .t (.sc (.int .i64 a.2)))]) (fun a => []) (fun a => a.1 ≤ fuel ∧ zbU a.1 x1 x2 a.2 = some r ∧ 0 ≤ a.2) (fuel, 0) ⟨Nat.le_refl _, F0, by simp⟩ ?_
 clear F0
 rintro ⟨fu, g1⟩ ⟨hl2, F1, hn_g1⟩
 dsimp only at hl2 F1 hn_g1 ⊢
 obtain _ | fu := fu
 · rw [zbU] at F1; cases F1
 rw [zbU] at F1
 refine zb (zb (za ?_))
 refine s_mv ?_
 refine s_mv ?_
 refine zD yU51 ?_
 refine s_lt ?_
 refine zf (zd ?_)
 refine zm F1 ?_ ?_ <;> intro C3 F2
 refine zQ 0 (fun B4 => ?_)
 refine zi (zd (zb (zk (zb (za ?_)))))
 refine s_mv ?_
 refine s_mv ?_
 obtain ⟨v5, V5, F3⟩ := zc F2
 refine zN rS V5 rfl yE51 ?_
 refine zu yA9 ?_
 refine s_mv ?_
 refine zg6 ?_
 refine zf (zd ?_)
 refine zm F3 ?_ ?_ <;> intro C6 F4
 refine zb (za ?_)
 refine s_as ?_
 refine zf (zd (zh (zj (zg (zx (zj (zg (zn ?_))))))))
 cases F4
 exact zl [] [] Tryz.results20
 refine zi (z4 (zd (za ?_)))
 refine s_mv ?_
 refine zM (zaA C3 B4 hn_g1) ?_
 refine s_as ?_
 refine zf ?_
 exact s_rn (fu, (g1 + 1)) ⟨by first | omega | (dsimp only; omega), F4, by first | omega | (dsimp only; omega)⟩
 refine zz (zp (zo (zq (zd (zb (za ?_))))))
 refine s_as ?_
 refine zf (zd (zh (zn ?_)))
 cases F2
 exact zl [] [] Tryz.results20
def zfa (fuel : Nat) : Prop := ∀ (x1 : Form) (x2 : Form) (r : Int), zdO fuel x1 x2 = some r → AC Tryz.prog 23 [.ag [.t (.sc (.int .i64 x1.kind)), .t (.sc (.str x1.name)), .t (.sc (.int .i64 x1.n)), .t (.sl (x1.scopes.map rI)), .t (.sl (x1.kids.map Form.row))], .ag [.t (.sc (.int .i64 x2.kind)), .t (.sc (.str x2.name)), .t (.sc (.int .i64 x2.n)), .t (.sl (x2.scopes.map rI)), .t (.sl (x2.kids.map Form.row))]] noOb (.t (.sc (.int .i64 r))) noOb
theorem m_laws_mxTimes_st (fu : Nat) (ih_m_laws_mxTimes : ∀ k, k ≤ fu → zfa k) : zfa (fu + 1) := by
 intro x1 x2 r F0
 rw [zdO] at F0
 refine AC_i [.t (.sc (.int .i64 r))] Tryz.func23 rfl Tryz.ntmps23 ?_
 intro C hC
 refine zb (za ?_)
 refine za5 ?_
 refine za5 ?_
 refine s_as ?_
 refine zf (zd (zb (za ?_)))
 refine s_as ?_
 refine zf (zd ?_)
 refine zbm (α := Nat × Int) [5, 7, 8, 9] [] [] (fun a => [(5, .t (.sc (.int .i64 a.2)))]) (fun a => []) (fun a => a.1 ≤ fu ∧ zcH a.1 x1 x2 a.2 = some r) ?_ ?_
 refine zb (za ?_)
 refine zI yA32 yS32 ?_
 refine zI yA32 yS32 ?_
 obtain ⟨v1, V1, F1⟩ := zc F0
 refine zv [] (zbI fu _ _ _ V1) ?_
 refine zf (zd ?_)
 refine zm F1 ?_ ?_ <;> intro C2 F2
 refine za ?_
 refine s_as ?_
 refine zf ?_
 exact s_jn (fu, 1) ⟨by first | omega | (dsimp only; omega), F2⟩
 refine zi ?_
 exact s_jn (fu, 0) ⟨by first | omega | (dsimp only; omega), F2⟩
 clear F0
 rintro ⟨fu, g3⟩ ⟨hl4, F1⟩
 dsimp only at hl4 F1 ⊢
 obtain _ | fu := fu
 · rw [zcH] at F1; cases F1
 rw [zcH] at F1
 refine zb (zb (za ?_))
 refine s_as ?_
 refine zf (zd (zk ?_))
 refine zaX (β := Int × Int) [5, 6, 10, 11, 12, 13, 14, 15, 16, 17, 18, 19, 20, 21, 22, 23, 24, 25] [] [] (fun a => [(5, .t (.sc (.int .i64 a.2.1))), (6, .t (.sc (.int .i64 a.2.2)))]) (fun a => []) (fun a => a.1 ≤ fu ∧ zb1 a.1 x1 x2 a.2.1 a.2.2 = some r ∧ 0 ≤ a.2.2) (fu, g3, 0) ⟨Nat.le_refl _, F1, by simp⟩ ?_
 clear F1
 rintro ⟨fu, g5, g6⟩ ⟨hl7, F2, hn_g6⟩
 dsimp only at hl7 F2 hn_g6 ⊢
 obtain _ | fu := fu
 · rw [zb1] at F2; cases F2
 rw [zb1] at F2
 refine zb (zb (za ?_))
 refine s_mv ?_
 refine s_fa zH ?_
 refine zu yA24 ?_
 refine zD yU24 ?_
 refine s_lt ?_
 refine zf (zd ?_)
 refine zm F2 ?_ ?_ <;> intro C8 F3
 refine zQ 12 (fun B9 => ?_)
 refine zi (zd (zb (zk ?_)))
 refine zZ yMix (by kernel_rfl) ?_
 refine s_mv ?_
 refine s_fa zH ?_
 refine zu yA24 ?_
 refine s_mv ?_
 obtain ⟨v10, V10, F4⟩ := zc F3
 refine zN Form.row V10 (Form.row_eq _) yE24 ?_
 refine zar yA32 yS32 ?_
 refine zI yA32 yS32 ?_
 obtain ⟨v11, V11, F5⟩ := zc F4
 refine zv [] (ih_m_laws_mxTimes fu (by omega) _ _ _ V11) ?_
 refine zM rfl ?_
 refine s_as ?_
 refine zap (by kernel_rfl) ?_
 refine z4 (zd (za ?_))
 refine s_mv ?_
 refine zM (zaA C8 B9 hn_g6) ?_
 refine s_as ?_
 refine zf ?_
 exact s_rn (fu, (w64 (g5 + v11)), (g6 + 1)) ⟨by first | omega | (dsimp only; omega), F5, by first | omega | (dsimp only; omega)⟩
 refine zz (zp (zo (zq (zd (zb (za ?_))))))
 refine s_mv ?_
 refine s_as ?_
 refine zf (zd (zh (zn ?_)))
 cases F3
 exact zl [] [] Tryz.results23
theorem m_laws_mxTimes_all (fuel : Nat) : zfa fuel := by
 induction fuel using Nat.strongRecOn with
 | _ N ih =>
   cases N with
   | zero => exact (by intro x1 x2 r h; rw [zdO] at h; cases h)
   | succ fu => exact m_laws_mxTimes_st fu (fun k hk => (ih k (by omega)))
theorem m_laws_mxTimes_ok (fuel : Nat) : zfa fuel := (m_laws_mxTimes_all fuel)
def m_laws_FnFillSize_AC (fuel : Nat) : Prop := ∀ (x1 : (List Int)) (r : Bool), zfb fuel x1 = some r → AC Tryz.prog 5 [.t (.sl (x1.map rB))] noOb (.t (.sc (.bool r))) noOb
theorem m_laws_FnFillSize_ok (fuel : Nat) : m_laws_FnFillSize_AC fuel := by
 intro x1 r F0
 unfold zfb at F0
 refine AC_i [.t (.sc (.bool r))] Tryz.func5 rfl Tryz.ntmps5 ?_
 intro C hC
 refine zb (za ?_)
 refine s_as ?_
 refine zf (zd (zb (zb (za ?_))))
 refine s_mv ?_
 refine zD yU22 ?_
 refine s_gt ?_
 refine zf (zd ?_)
 refine zm F0 ?_ ?_ <;> intro C1 F1
 refine zQ 0 (fun B2 => ?_)
 refine zb (za ?_)
 refine s_as ?_
 refine zf (zd (zh (zg (zn ?_))))
 cases F1
 exact zl [] [] Tryz.results5
 refine zi (zd (zb (za ?_)))
 refine s_mv ?_
 obtain ⟨v3, V3, F2⟩ := zc F1
 refine zv [] (zg7 fuel _ _ V3) ?_
 refine s_mv ?_
 refine zcA ?_
 refine zcA ?_
 refine z5 yZ32 ?_
 refine zad yS32 ?_
 refine s_as ?_
 refine zf (zd (zb (za ?_)))
 refine zI yA32 yS32 ?_
 refine s_mv ?_
 obtain ⟨v4, V4, F3⟩ := zc F2
 refine zv [] (m_impl_FillTemplate_ok fuel _ _ _ V4) ?_
 refine s_mv ?_
 refine zcA ?_
 refine zcA ?_
 refine z5 yZ32 ?_
 refine zad yS32 ?_
 refine s_as ?_
 refine zf (zd (zb (za ?_)))
 refine zI yA32 yS32 ?_
 refine s_mv ?_
 obtain ⟨v5, V5, F4⟩ := zc F3
 refine zv [] (m_spec_FillTemplate_ok fuel _ _ _ V5) ?_
 refine s_mv ?_
 refine zcA ?_
 refine zcA ?_
 refine z5 yZ32 ?_
 refine zad yS32 ?_
 refine s_as ?_
 refine zf (zd (zb ?_))
 refine zbm (α := Nat × Bool) [31, 32, 33, 34, 35, 36, 37, 38, 39, 40, 41, 42, 43, 44, 45, 46, 47, 48] [] [] (fun a => [(48, .t (.sc (.bool a.2)))]) (fun a => []) (fun a => a.1 ≤ fuel ∧ zax a.1 v3 v4 v5 a.2 = some r) ?_ ?_
 refine za ?_
 refine zI yA32 yS32 ?_
 refine zI yA32 yS32 ?_
 obtain ⟨v6, V6, F5⟩ := zc F4
 refine zv [] (zbI fuel _ _ _ V6) ?_
 refine zbC ?_
 refine s_mv ?_
 refine zr _ 35 F5 ?_ ?_ <;> intro C7 F6
 iterate 3 refine r_no rfl ?_
 refine zA ?_
 refine s_mv ?_
 refine r_no rfl (r_no rfl ?_)
 refine zA ?_
 refine s_mv ?_
 iterate 3 refine r_no rfl ?_
 refine zA ?_
 refine zf ?_
 exact s_jn (fuel, true) ⟨by first | omega | (dsimp only; omega), F6⟩
 refine s_mv ?_
 refine s_mv ?_
 refine s_neB yU4 ?_
 refine zB ?_
 refine s_mv ?_
 refine zr _ 40 F6 ?_ ?_ <;> intro C8 F7
 refine r_no rfl (r_no rfl ?_)
 refine zA ?_
 refine s_mv ?_
 iterate 3 refine r_no rfl ?_
 refine zA ?_
 refine zf ?_
 exact s_jn (fuel, true) ⟨by first | omega | (dsimp only; omega), F7⟩
 refine s_mv ?_
 refine zbC ?_
 refine zB ?_
 refine s_mv ?_
 refine zr _ 44 F7 ?_ ?_ <;> intro C9 F8
 iterate 3 refine r_no rfl ?_
 refine zA ?_
 refine zf ?_
 exact s_jn (fuel, true) ⟨by first | omega | (dsimp only; omega), F8⟩
 refine zI yA32 yS32 ?_
 obtain ⟨v10, V10, F9⟩ := zc F8
 refine zv [] (m_impl_NamesOf_ok fuel _ _ V10) ?_
 obtain ⟨v11, V11, F10⟩ := zc F9
 refine zv [] (m_laws_mxHasText_ok fuel _ _ _ V11) ?_
 refine zB ?_
 refine zf ?_
 exact s_jn (fuel, v11) ⟨by first | omega | (dsimp only; omega), F10⟩
 clear F4
 rintro ⟨fu, g12⟩ ⟨hl13, F5⟩
 dsimp only at hl13 F5 ⊢
 obtain _ | fu := fu
 · rw [zax] at F5; cases F5
 rw [zax] at F5
 refine zm F5 ?_ ?_ <;> intro C14 F6
 refine zbm (α := Nat × Bool) [2, 49, 50, 51, 52, 53, 54, 55, 56] [] [] (fun a => [(2, .t (.sc (.bool a.2)))]) (fun a => []) (fun a => a.1 ≤ fu ∧ zcg a.1  a.2 = some r) ?_ ?_
 refine za ?_
 refine zI yA32 yS32 ?_
 refine zI yA32 yS32 ?_
 obtain ⟨v15, V15, F7⟩ := zc F6
 refine zv [] (zbI fu _ _ _ V15) ?_
 refine s_mv ?_
 refine zr _ 52 F7 ?_ ?_ <;> intro C16 F8
 refine s_mv ?_
 refine s_mv ?_
 refine s_eqB yU4 ?_
 refine zA ?_
 refine s_as ?_
 refine zf ?_
 exact s_jn (fu, (decide (v4.2 = v5.2))) ⟨by first | omega | (dsimp only; omega), F8⟩
 iterate 3 refine r_no rfl ?_
 refine zB ?_
 refine s_as ?_
 refine zf ?_
 exact s_jn (fu, false) ⟨by first | omega | (dsimp only; omega), F8⟩
 clear F6
 rintro ⟨fu, g17⟩ ⟨hl18, F7⟩
 dsimp only at hl18 F7 ⊢
 obtain _ | fu := fu
 · rw [zcg] at F7; cases F7
 rw [zcg] at F7
 refine zh (zg (zn ?_))
 cases F7
 exact zl [] [] Tryz.results5
 refine zi (zd (zb (za ?_)))
 refine zI yA32 yS32 ?_
 obtain ⟨v19, V19, F7⟩ := zc F6
 refine zv [] (zeM fu _ _ V19) ?_
 refine s_as ?_
 refine zf (zd (zb (zb (za ?_))))
 refine s_as ?_
 refine zf (zd (zk ?_))
 refine zaX (β := Int × Int) [9, 10, 59, 60, 61, 62, 63, 64, 65, 66, 67, 68, 69, 70, 71, 72, 73, 74, 75, 76, 77, 78, 79, 80, 81] [] [] (fun a => [(9, .t (.sc (.int .i64 a.2.1))), (10, .t (.sc (.int .i64 a.2.2)))]) (fun a => []) (fun a => a.1 ≤ fu ∧ zbh a.1 v3 v4 a.2.1 a.2.2 = some r ∧ 0 ≤ a.2.2) (fu, v19, 0) ⟨Nat.le_refl _, F7, by simp⟩ ?_
 clear F7
 rintro ⟨fu, g20, g21⟩ ⟨hl22, F8, hn_g21⟩
 dsimp only at hl22 F8 hn_g21 ⊢
 obtain _ | fu := fu
 · rw [zbh] at F8; cases F8
 rw [zbh] at F8
 refine zb (zb (za ?_))
 refine s_mv ?_
 refine s_mv ?_
 refine zD yU42 ?_
 refine s_lt ?_
 refine zf (zd ?_)
 refine zm F8 ?_ ?_ <;> intro C23 F9
 refine zQ 4 (fun B24 => ?_)
 refine zi (zd (zb (zk ?_)))
 refine zZ yMix (by kernel_rfl) ?_
 refine s_mv ?_
 refine zI yA32 yS32 ?_
 refine s_mv ?_
 refine s_mv ?_
 obtain ⟨v25, V25, F10⟩ := zc F9
 refine zN Hit.row V25 (Hit.row_eq _) yE42 ?_
 refine s_fa zfd ?_
 refine zar yA32 yS32 ?_
 obtain ⟨v26, V26, F11⟩ := zc F10
 refine zv [] (m_laws_mxTimes_ok fu _ _ _ V26) ?_
 refine s_mv ?_
 refine s_mv ?_
 obtain ⟨v27, V27, F12⟩ := zc F11
 refine zN Hit.row V27 (Hit.row_eq _) yE42 ?_
 refine s_fa yF48_2 ?_
 refine zar yA32 yS32 ?_
 obtain ⟨v28, V28, F13⟩ := zc F12
 refine zv [] (zeM fu _ _ V28) ?_
 refine zhj rfl ?_
 refine s_mul rfl ?_
 refine zM rfl ?_
 refine s_as ?_
 refine zap (by kernel_rfl) ?_
 refine z4 (zd (za ?_))
 refine s_mv ?_
 refine zM (zaA C23 B24 hn_g21) ?_
 refine s_as ?_
 refine zf ?_
 exact s_rn (fu, (w64 (g20 + (w64 (v26 * (w64 (v28 - 1)))))), (g21 + 1)) ⟨by first | omega | (dsimp only; omega), F13, by first | omega | (dsimp only; omega)⟩
 refine zz (zp (zo (zq (zd (zb (za ?_))))))
 refine zI yA32 yS32 ?_
 obtain ⟨v29, V29, F10⟩ := zc F9
 refine zv [] (zeM fu _ _ V29) ?_
 refine s_mv ?_
 refine s_eq ?_
 refine s_as ?_
 refine zf (zd (zh (zn ?_)))
 cases F10
 exact zl [] [] Tryz.results5
end Go.Abs
