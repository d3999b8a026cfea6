/- A part of the proof: what the functions that the law calls answer, as pure values. -/
import Derived.Test.YtcebadpiebamdaaGreatK084892eefba9
import Derived.Test.YtcebadpiebamdaaGreatKfbd980a3bd19
import Derived.Test.YtcebadpiebamdaaGreatK423f84c32d54
import Derived.Test.YtcebadpiebamdaaGreatKf8de2f3a577a
set_option linter.unusedSimpArgs false
set_option linter.unusedVariables false
set_option maxRecDepth 100000
set_option maxHeartbeats 4000000
namespace Go.Abs
open Go.Proofs
def zd8 (fuel : Nat) : Prop := ∀ (x1 : (List Bind)) (o1 : Bind) (r : Bool), zaD fuel x1 o1 = some r → AC Tryz.prog 95 [.t (.sl (x1.map Bind.row)), .fn 96 [.rf 9000 0]] (objs [(9000, .box [.t (.sc (.str o1.name)), .t (.sl (o1.scopes.map rI)), .t (.sc (.int .i64 o1.id))])]) (.t (.sc (.bool r))) (objs [(9000, .box [.t (.sc (.str o1.name)), .t (.sl (o1.scopes.map rI)), .t (.sc (.int .i64 o1.id))])])
theorem zd7 (fuel : Nat) : zd8 fuel := by
 intro x1 o1 r F0
 unfold zaD at F0
 refine AC_i [.t (.sc (.bool r))] Tryz.func95 rfl Tryz.ntmps95 ?_
 intro C hC
 refine zb (za ?_)
 refine s_as ?_
 refine zf (zd (zb (za ?_)))
 refine s_mv ?_
 refine s_mv ?_
 obtain ⟨v1, V1, F1⟩ := zc F0
 refine zQ [(9000, 9000)] [] _ _ (zex fuel _ _ _ V1) ?_
 refine s_ge ?_
 refine s_as ?_
 refine zf (zd (zh (zm ?_)))
 cases F1
 exact zk _ [] Tryz.results95
def m_impl_BindsValid_AC (fuel : Nat) : Prop := ∀ (x1 : (List Bind)) (r : Bool), zcn fuel x1 = some r → AC Tryz.prog 48 [.t (.sl (x1.map Bind.row))] noOb (.t (.sc (.bool r))) noOb
theorem m_impl_BindsValid_ok (fuel : Nat) : m_impl_BindsValid_AC fuel := by
 intro x1 r F0
 unfold zcn at F0
 refine AC_i [.t (.sc (.bool r))] Tryz.func48 rfl Tryz.ntmps48 ?_
 intro C hC
 refine zb (za ?_)
 refine s_as ?_
 refine zf (zd (zb (zb (za ?_))))
 refine s_mv ?_
 refine zE yU33 ?_
 refine s_mv ?_
 refine zf (zd (zl ?_))
 refine zap (β := Int) [2, 3, 4, 7, 8, 9, 10, 11, 12, 13, 14, 15, 16, 17, 18, 19, 20, 21, 22, 23, 24, 25, 26, 27, 28, 29, 30, 31, 32, 33] [] [4] (fun a => [(7, .t (.sc (.int .i64 a.2)))]) (fun a => []) (fun a => a.1 ≤ fuel ∧ zbb a.1 x1 a.2 = some r ∧ 0 ≤ a.2) (fuel, 0) ⟨Nat.le_refl _, F0, by simp⟩ ?_
 clear F0
 rintro ⟨fu, g1⟩ ⟨hl2, F1, hn_g1⟩
 dsimp only at hl2 F1 hn_g1 ⊢
 obtain _ | fu := fu
 · rw [zbb] at F1; cases F1
 rw [zbb] at F1
 refine zb (za ?_)
 refine s_lt ?_
 refine zf (zd (zb ?_))
 refine zn F1 ?_ ?_ <;> intro C3 F2
 refine zG 0 (fun B4 => ?_)
 refine zi (zd (zb (zl (zb (za ?_)))))
 refine s_mv ?_
 obtain ⟨v5, V5, F3⟩ := zc F2
 refine zL Bind.row V5 (Bind.row_eq _) yE33 ?_
 refine zag yA83 yS83 ?_
 refine zU yZ83 ?_
 refine s_as ?_
 refine zb4 yS83 ?_
 refine zf (zd (zb ?_))
 refine zgd (α := Nat × Bool) [12, 13, 14, 15, 16, 17, 18, 19, 20, 21, 22, 23, 24, 25, 26, 27] [] [] (fun a => [(27, .t (.sc (.bool a.2)))]) (fun a => []) (fun a => a.1 ≤ fu ∧ zaH a.1 x1 g1 v5 a.2 = some r) ?_ ?_
 refine za ?_
 refine s_fa yF83_0 ?_
 refine zp yA9 ?_
 obtain ⟨v6, V6, F4⟩ := zc F3
 refine zz [] (zgE fu _ _ V6) ?_
 refine zbC ?_
 refine s_mv ?_
 refine zy _ 16 F4 ?_ ?_ <;> intro C7 F5
 iterate 4 refine r_no rfl ?_
 refine zC ?_
 refine s_mv ?_
 iterate 4 refine r_no rfl ?_
 refine zC ?_
 refine zf ?_
 exact s_jn (fu, true) ⟨by first | omega | (dsimp only; omega), F5⟩
 refine s_fa yF83_1 ?_
 refine zp yA23 ?_
 obtain ⟨v8, V8, F6⟩ := zc F5
 refine zz [] (zgU fu _ _ V8) ?_
 refine zbC ?_
 refine zF ?_
 refine s_mv ?_
 refine zy _ 22 F6 ?_ ?_ <;> intro C9 F7
 iterate 4 refine r_no rfl ?_
 refine zC ?_
 refine zf ?_
 exact s_jn (fu, true) ⟨by first | omega | (dsimp only; omega), F7⟩
 refine s_fa zg7 ?_
 refine zp yA3 ?_
 obtain ⟨v10, V10, F8⟩ := zc F7
 refine zz [] (zbU fu _ _ _ _ V10) ?_
 refine zbC ?_
 refine zF ?_
 refine zf ?_
 exact s_jn (fu, (!v10)) ⟨by first | omega | (dsimp only; omega), F8⟩
 clear F3
 rintro ⟨fu, g11⟩ ⟨hl12, F4⟩
 dsimp only at hl12 F4 ⊢
 obtain _ | fu := fu
 · rw [zaH] at F4; cases F4
 rw [zaH] at F4
 refine zn F4 ?_ ?_ <;> intro C13 F5
 refine zb (za ?_)
 refine s_as ?_
 refine zf (zd (zh (zg (zj (zg (zu (zj (zg (zm ?_)))))))))
 cases F5
 exact zk [] [] Tryz.results48
 refine zi (zd (zb (za ?_)))
 refine s_mv ?_
 refine s_mv ?_
 obtain ⟨v14, V14, F6⟩ := zc F5
 refine s_sl01 Bind.row (fun y => Bind.row_len y) V14 yU33 yE33 ?_
 refine s_fn ?_
 obtain ⟨v15, V15, F7⟩ := zc F6
 refine zQ [(9000, 4)] [] _ _ (zd7 fu _ _ _ V15) ?_
 refine zf (zd ?_)
 refine zn F7 ?_ ?_ <;> intro C16 F8
 refine zb (za ?_)
 refine s_as ?_
 refine zf (zd (zh (zj (zg (zu (zj (zg (zm ?_))))))))
 cases F8
 exact zk [] [] Tryz.results48
 refine zi (z6 (zd (za ?_)))
 refine zI (zak C3 B4 hn_g1) ?_
 refine s_mv ?_
 refine zf ?_
 exact s_rn (fu, (g1 + 1)) ⟨by first | omega | (dsimp only; omega), F8, by first | omega | (dsimp only; omega)⟩
 refine zB (zw (zr (zx (zd (zb (za ?_))))))
 refine s_mv ?_
 refine zE yU33 ?_
 refine s_le ?_
 refine s_as ?_
 refine zf (zd (zh (zm ?_)))
 cases F2
 exact zk [] [] Tryz.results48
def zgI (fuel : Nat) : Prop := ∀ (x1 : Bind) (o1 : zv) (r : Bool), zcb fuel x1 o1 = some r → AC Tryz.prog 115 [.ag [.t (.sc (.str x1.name)), .t (.sl (x1.scopes.map rI)), .t (.sc (.int .i64 x1.id))], .rf 9000 0] (objs [(9000, .box [.t (.sl (o1.binds.map Bind.row)), .t (.sl (o1.macros.map zq.row)), .t (.sc (.int .i64 o1.scope)), .t (.sc (.int .i64 o1.id)), .t (.sc (.int .i64 o1.steps))])]) (.t (.sc (.bool r))) (objs [(9000, .box [.t (.sl (o1.binds.map Bind.row)), .t (.sl (o1.macros.map zq.row)), .t (.sc (.int .i64 o1.scope)), .t (.sc (.int .i64 o1.id)), .t (.sc (.int .i64 o1.steps))])])
theorem zgH (fuel : Nat) : zgI fuel := by
 intro x1 o1 r F0
 unfold zcb at F0
 refine AC_i [.t (.sc (.bool r))] Tryz.func115 rfl Tryz.ntmps115 ?_
 intro C hC
 refine zb (za ?_)
 refine zaF ?_
 refine s_as ?_
 refine zf (zd (zb (za ?_)))
 refine s_fa zg7 ?_
 refine zp yA3 ?_
 refine s_fa yF60_3 ?_
 refine zp yA3 ?_
 refine s_gt ?_
 refine s_mv ?_
 refine zy _ 9 F0 ?_ ?_ <;> intro C1 F1
 iterate 3 refine r_no rfl ?_
 refine zC ?_
 refine s_as ?_
 refine zf (zd (zh (zm ?_)))
 cases F1
 exact zk _ [] Tryz.results115
 refine s_fa zg7 ?_
 refine zp yA3 ?_
 obtain ⟨v2, V2, F2⟩ := zc F1
 refine zz [] (zbU fuel _ _ _ _ V2) ?_
 refine zF ?_
 refine s_as ?_
 refine zf (zd (zh (zm ?_)))
 cases F2
 exact zk _ [] Tryz.results115
def zdX (fuel : Nat) : Prop := ∀ (x1 : (List Bind)) (o1 : zv) (r : Int), zay fuel x1 o1 = some r → AC Tryz.prog 131 [.t (.sl (x1.map Bind.row)), .fn 115 [.rf 9000 0]] (objs [(9000, .box [.t (.sl (o1.binds.map Bind.row)), .t (.sl (o1.macros.map zq.row)), .t (.sc (.int .i64 o1.scope)), .t (.sc (.int .i64 o1.id)), .t (.sc (.int .i64 o1.steps))])]) (.t (.sc (.int .i64 r))) (objs [(9000, .box [.t (.sl (o1.binds.map Bind.row)), .t (.sl (o1.macros.map zq.row)), .t (.sc (.int .i64 o1.scope)), .t (.sc (.int .i64 o1.id)), .t (.sc (.int .i64 o1.steps))])])
theorem zdW (fuel : Nat) : zdX fuel := by
 intro x1 o1 r F0
 unfold zay at F0
 refine AC_i [.t (.sc (.int .i64 r))] Tryz.func131 rfl Tryz.ntmps131 ?_
 intro C hC
 refine zb (za ?_)
 refine s_as ?_
 refine zf (zd (zb (zb (za ?_))))
 refine s_mv ?_
 refine zE yU33 ?_
 refine s_mv ?_
 refine zf (zd (zl ?_))
 refine zap (β := Int) [4, 5, 8, 9, 10, 11, 12, 13, 14, 15, 16, 17, 18] [] [] (fun a => [(8, .t (.sc (.int .i64 a.2)))]) (fun a => []) (fun a => a.1 ≤ fuel ∧ zH a.1 x1 o1 a.2 = some r ∧ 0 ≤ a.2) (fuel, 0) ⟨Nat.le_refl _, F0, by simp⟩ ?_
 clear F0
 rintro ⟨fu, g1⟩ ⟨hl2, F1, hn_g1⟩
 dsimp only at hl2 F1 hn_g1 ⊢
 obtain _ | fu := fu
 · rw [zH] at F1; cases F1
 rw [zH] at F1
 refine zb (za ?_)
 refine s_lt ?_
 refine zf (zd (zb ?_))
 refine zn F1 ?_ ?_ <;> intro C3 F2
 refine zG 0 (fun B4 => ?_)
 refine zi (zd (zb (zl (zb (za ?_)))))
 refine s_mv ?_
 refine s_as ?_
 refine zf (zd (zb (za ?_)))
 iterate 3 refine s_mv ?_
 obtain ⟨v5, V5, F3⟩ := zc F2
 refine zL Bind.row V5 (Bind.row_eq _) yE33 ?_
 refine zag yA83 yS83 ?_
 obtain ⟨v6, V6, F4⟩ := zc F3
 refine zQ [(9000, 9000)] [] _ _ (zgH fu _ _ _ V6) ?_
 refine zf (zd ?_)
 refine zn F4 ?_ ?_ <;> intro C7 F5
 refine zb (za ?_)
 refine s_mv ?_
 refine s_as ?_
 refine zf (zd (zh (zj (zg (zu (zj (zg (zm ?_))))))))
 cases F5
 exact zk _ [] Tryz.results131
 refine zi (z6 (zd (za ?_)))
 refine zI (zak C3 B4 hn_g1) ?_
 refine s_mv ?_
 refine zf ?_
 exact s_rn (fu, (g1 + 1)) ⟨by first | omega | (dsimp only; omega), F5, by first | omega | (dsimp only; omega)⟩
 refine zB (zw (zr (zx (zd (zb (za ?_))))))
 refine s_as ?_
 refine zf (zd (zh (zm ?_)))
 cases F2
 exact zk _ [] Tryz.results131
def zdB (fuel : Nat) : Prop := ∀ (x1 : (List Bind)) (o1 : zv) (r : Bool), zaq fuel x1 o1 = some r → AC Tryz.prog 95 [.t (.sl (x1.map Bind.row)), .fn 115 [.rf 9000 0]] (objs [(9000, .box [.t (.sl (o1.binds.map Bind.row)), .t (.sl (o1.macros.map zq.row)), .t (.sc (.int .i64 o1.scope)), .t (.sc (.int .i64 o1.id)), .t (.sc (.int .i64 o1.steps))])]) (.t (.sc (.bool r))) (objs [(9000, .box [.t (.sl (o1.binds.map Bind.row)), .t (.sl (o1.macros.map zq.row)), .t (.sc (.int .i64 o1.scope)), .t (.sc (.int .i64 o1.id)), .t (.sc (.int .i64 o1.steps))])])
theorem zdA (fuel : Nat) : zdB fuel := by
 intro x1 o1 r F0
 unfold zaq at F0
 refine AC_i [.t (.sc (.bool r))] Tryz.func95 rfl Tryz.ntmps95 ?_
 intro C hC
 refine zb (za ?_)
 refine s_as ?_
 refine zf (zd (zb (za ?_)))
 refine s_mv ?_
 refine s_mv ?_
 obtain ⟨v1, V1, F1⟩ := zc F0
 refine zQ [(9000, 9000)] [] _ _ (zdW fuel _ _ _ V1) ?_
 refine s_ge ?_
 refine s_as ?_
 refine zf (zd (zh (zm ?_)))
 cases F1
 exact zk _ [] Tryz.results95
def zfe (fuel : Nat) : Prop := ∀ (x1 : Form) (x2 : Int) (o1 : Int) (r : (Bool × Int)), zd0 fuel x1 x2 o1 = some r → AC Tryz.prog 103 [.ag [.t (.sc (.int .i64 x1.kind)), .t (.sc (.str x1.name)), .t (.sc (.int .i64 x1.n)), .t (.sl (x1.scopes.map rI)), .t (.sl (x1.kids.map Form.row))], .t (.sc (.int .i64 x2)), .rf 9000 0] (objs [(9000, .box [.t (.sc (.int .i64 o1))])]) (.t (.sc (.bool r.1))) (objs [(9000, .box [.t (.sc (.int .i64 r.2))])])
theorem m_impl_formOk_st (fu : Nat) (ih_m_impl_formOk : ∀ k, k ≤ fu → zfe k) : zfe (fu + 1) := by
 intro x1 x2 o1 r F0
 rw [zd0] at F0
 refine AC_i [.t (.sc (.bool r.1))] Tryz.func103 rfl Tryz.ntmps103 ?_
 intro C hC
 refine zb (za ?_)
 refine zaF ?_
 refine s_as ?_
 refine zf (zd (zb (za ?_)))
 refine s_mv ?_
 refine s_nc ?_
 refine zp yA3 ?_
 refine s_sub rfl ?_
 refine s_nc ?_
 refine zb4 yS3 ?_
 refine zf (zd (zb (zb (za ?_))))
 refine s_mv ?_
 refine s_nc ?_
 refine zp yA3 ?_
 refine s_lt ?_
 refine s_mv ?_
 refine zy _ 18 F0 ?_ ?_ <;> intro C1 F1
 refine r_no rfl (r_no rfl ?_)
 refine zC ?_
 refine zf (zd (zM rfl (zb (za ?_))))
 refine s_as ?_
 refine zf (zd (zh (zg (zm ?_))))
 cases F1
 exact zk _ [] Tryz.results103
 refine s_mv ?_
 refine s_gt ?_
 refine zF ?_
 refine zf (zd ?_)
 refine zn F1 ?_ ?_ <;> intro C2 F2
 refine zb (za ?_)
 refine s_as ?_
 refine zf (zd (zh (zg (zm ?_))))
 cases F2
 exact zk _ [] Tryz.results103
 refine zi (zd (zb (zb (za ?_))))
 refine s_fa zc8 ?_
 refine zp yA3 ?_
 refine zf (zd (zl (zb (za ?_))))
 refine s_eq ?_
 refine s_as ?_
 refine zf (zd ?_)
 refine zn F2 ?_ ?_ <;> intro C3 F3
 refine zb (za ?_)
 refine s_fa zcH ?_
 refine zp yA9 ?_
 obtain ⟨v4, V4, F4⟩ := zc F3
 refine zz [] (zgE fu _ _ V4) ?_
 refine s_mv ?_
 refine zy _ 29 F4 ?_ ?_ <;> intro C5 F5
 refine s_fa zep ?_
 refine zp yA3 ?_
 refine s_eq ?_
 refine zC ?_
 refine s_mv ?_
 refine zy _ 34 F5 ?_ ?_ <;> intro C6 F6
 refine s_fa zeu ?_
 refine zp yA23 ?_
 obtain ⟨v7, V7, F7⟩ := zc F6
 refine zz [] (zgU fu _ _ V7) ?_
 refine zC ?_
 refine s_mv ?_
 refine zy _ 39 F7 ?_ ?_ <;> intro C8 F8
 refine s_fa zZ ?_
 refine zp yA35 ?_
 refine zE yU35 ?_
 refine s_eq ?_
 refine zC ?_
 refine s_as ?_
 refine zf (zd (zh (zj (zg (zm ?_)))))
 cases F8
 exact zk _ [] Tryz.results103
 iterate 4 refine r_no rfl ?_
 refine zF ?_
 refine s_as ?_
 refine zf (zd (zh (zj (zg (zm ?_)))))
 cases F8
 exact zk _ [] Tryz.results103
 iterate 3 refine r_no rfl ?_
 refine zF ?_
 refine s_mv ?_
 iterate 4 refine r_no rfl ?_
 refine zF ?_
 refine s_as ?_
 refine zf (zd (zh (zj (zg (zm ?_)))))
 cases F6
 exact zk _ [] Tryz.results103
 iterate 3 refine r_no rfl ?_
 refine zF ?_
 refine s_mv ?_
 iterate 3 refine r_no rfl ?_
 refine zF ?_
 refine s_mv ?_
 iterate 4 refine r_no rfl ?_
 refine zF ?_
 refine s_as ?_
 refine zf (zd (zh (zj (zg (zm ?_)))))
 cases F5
 exact zk _ [] Tryz.results103
 refine zb (za ?_)
 refine s_eq ?_
 refine s_as ?_
 refine zf (zd ?_)
 refine zn F3 ?_ ?_ <;> intro C9 F4
 refine zb (za ?_)
 refine s_fa zcH ?_
 refine zp yA9 ?_
 refine s_eqS ?_
 refine s_mv ?_
 refine zy _ 50 F4 ?_ ?_ <;> intro C10 F5
 refine s_fa zep ?_
 refine zp yA3 ?_
 obtain ⟨v11, V11, F6⟩ := zc F5
 refine zz [] (zbU fu _ _ _ _ V11) ?_
 refine zC ?_
 refine s_mv ?_
 refine zy _ 55 F6 ?_ ?_ <;> intro C12 F7
 refine s_fa zeu ?_
 refine zp yA23 ?_
 refine zE yU23 ?_
 refine s_eq ?_
 refine zC ?_
 refine s_mv ?_
 refine zy _ 61 F7 ?_ ?_ <;> intro C13 F8
 refine s_fa zZ ?_
 refine zp yA35 ?_
 refine zE yU35 ?_
 refine s_eq ?_
 refine zC ?_
 refine s_as ?_
 refine zf (zd (zh (zj (zg (zm ?_)))))
 cases F8
 exact zk _ [] Tryz.results103
 iterate 4 refine r_no rfl ?_
 refine zF ?_
 refine s_as ?_
 refine zf (zd (zh (zj (zg (zm ?_)))))
 cases F8
 exact zk _ [] Tryz.results103
 iterate 4 refine r_no rfl ?_
 refine zF ?_
 refine s_mv ?_
 iterate 4 refine r_no rfl ?_
 refine zF ?_
 refine s_as ?_
 refine zf (zd (zh (zj (zg (zm ?_)))))
 cases F7
 exact zk _ [] Tryz.results103
 iterate 3 refine r_no rfl ?_
 refine zF ?_
 refine s_mv ?_
 iterate 4 refine r_no rfl ?_
 refine zF ?_
 refine s_mv ?_
 iterate 4 refine r_no rfl ?_
 refine zF ?_
 refine s_as ?_
 refine zf (zd (zh (zj (zg (zm ?_)))))
 cases F5
 exact zk _ [] Tryz.results103
 refine zb (za ?_)
 refine s_eq ?_
 refine s_as ?_
 refine zf (zd ?_)
 refine zn F4 ?_ ?_ <;> intro C14 F5
 refine zb (zb (za ?_))
 refine s_fa zcH ?_
 refine zp yA9 ?_
 refine s_neS ?_
 refine s_mv ?_
 refine zy _ 72 F5 ?_ ?_ <;> intro C15 F6
 iterate 3 refine r_no rfl ?_
 refine zC ?_
 refine s_mv ?_
 iterate 4 refine r_no rfl ?_
 refine zC ?_
 refine zf (zd (zM rfl (zb (za ?_))))
 refine s_as ?_
 refine zf (zd (zh (zg (zj (zg (zm ?_))))))
 cases F6
 exact zk _ [] Tryz.results103
 refine s_fa zep ?_
 refine zp yA3 ?_
 refine s_ne ?_
 refine zF ?_
 refine s_mv ?_
 refine zy _ 77 F6 ?_ ?_ <;> intro C16 F7
 iterate 4 refine r_no rfl ?_
 refine zC ?_
 refine zf (zd (zM rfl (zb (za ?_))))
 refine s_as ?_
 refine zf (zd (zh (zg (zj (zg (zm ?_))))))
 cases F7
 exact zk _ [] Tryz.results103
 refine s_fa zeu ?_
 refine zp yA23 ?_
 refine zE yU23 ?_
 refine s_gt ?_
 refine zF ?_
 refine zf (zd ?_)
 refine zn F7 ?_ ?_ <;> intro C17 F8
 refine zG 79 (fun B18 => ?_)
 refine zb (za ?_)
 refine s_as ?_
 refine zf (zd (zh (zg (zj (zg (zm ?_))))))
 cases F8
 exact zk _ [] Tryz.results103
 refine zi (zd (zb (zb (za ?_))))
 refine s_fa zZ ?_
 refine zp yA35 ?_
 refine zE yU35 ?_
 refine s_mv ?_
 refine zf (zd (zl ?_))
 refine zap (β := Int × Int) [6, 8, 86, 87, 88, 89, 90, 91, 92, 93, 94, 95, 96] [9000] [8] (fun a => [(86, .t (.sc (.int .i64 a.2.1)))]) (fun a => [(9000, .box [.t (.sc (.int .i64 a.2.2))])]) (fun a => a.1 ≤ fu ∧ zcf a.1 x1 x2 a.2.1 a.2.2 = some r ∧ 0 ≤ a.2.1) (fu, 0, (w64 (o1 - 1))) ⟨Nat.le_refl _, F8, by simp⟩ ?_
 clear F8
 rintro ⟨fu, g19, g20⟩ ⟨hl21, F9, hn_g19⟩
 dsimp only at hl21 F9 hn_g19 ⊢
 obtain _ | fu := fu
 · rw [zcf] at F9; cases F9
 rw [zcf] at F9
 refine zb (za ?_)
 refine s_lt ?_
 refine zf (zd (zb ?_))
 refine zn F9 ?_ ?_ <;> intro C22 F10
 refine zG 84 (fun B23 => ?_)
 refine zi (zd (zb (zl (zb (za ?_)))))
 obtain ⟨v24, V24, F11⟩ := zc F10
 refine zL Form.row V24 (Form.row_eq _) yE35 ?_
 refine zag yA37 yS37 ?_
 refine zU yZ37 ?_
 refine zb4 yS37 ?_
 refine zf (zd (zb (za ?_)))
 refine zad yA37 yS37 ?_
 refine s_mv ?_
 refine zI rfl ?_
 refine s_mv ?_
 obtain ⟨v25, V25, F12⟩ := zc F11
 refine zQ [(9000, 9000)] [] _ _ (ih_m_impl_formOk fu (by omega) _ _ _ _ V25) ?_
 refine zbC ?_
 refine zf (zd ?_)
 refine zn F12 ?_ ?_ <;> intro C26 F13
 refine zb (za ?_)
 refine s_as ?_
 refine zf (zd (zh (zj (zg (zu (zj (zg (zj (zg (zm ?_))))))))))
 cases F13
 exact zk _ [] Tryz.results103
 refine zi (z6 (zd (za ?_)))
 refine zI (zak C22 B23 hn_g19) ?_
 refine s_mv ?_
 refine zf ?_
 exact s_rn (fu, (g19 + 1), v25.2) ⟨by first | omega | (dsimp only; omega), F13, by first | omega | (dsimp only; omega)⟩
 refine zB (zw (zr (zx (zd (zb (za ?_))))))
 refine s_as ?_
 refine zf (zd (zh (zj (zg (zm ?_)))))
 cases F10
 exact zk _ [] Tryz.results103
 refine zi (z6 (zd (zb (za ?_))))
 refine s_as ?_
 refine zf (zd (zh (zm ?_)))
 cases F5
 exact zk _ [] Tryz.results103
theorem m_impl_formOk_all (fuel : Nat) : zfe fuel := by
 induction fuel using Nat.strongRecOn with
 | _ N ih =>
   cases N with
   | zero => exact (by intro x1 x2 o1 r h; rw [zd0] at h; cases h)
   | succ fu => exact m_impl_formOk_st fu (fun k hk => (ih k (by omega)))
theorem m_impl_formOk_ok (fuel : Nat) : zfe fuel := (m_impl_formOk_all fuel)
def m_impl_FormValid_AC (fuel : Nat) : Prop := ∀ (x1 : Form) (r : Bool), zcG fuel x1 = some r → AC Tryz.prog 50 [.ag [.t (.sc (.int .i64 x1.kind)), .t (.sc (.str x1.name)), .t (.sc (.int .i64 x1.n)), .t (.sl (x1.scopes.map rI)), .t (.sl (x1.kids.map Form.row))]] noOb (.t (.sc (.bool r))) noOb
theorem zfp (fuel : Nat) : m_impl_FormValid_AC fuel := by
 intro x1 r F0
 unfold zcG at F0
 refine AC_i [.t (.sc (.bool r))] Tryz.func50 rfl Tryz.ntmps50 ?_
 intro C hC
 refine zb (za ?_)
 refine zaF ?_
 refine s_as ?_
 refine zf (zd (zb (za ?_)))
 refine zU yZ3 ?_
 refine zb4 yS3 ?_
 refine zf (zd (zb (za ?_)))
 refine zad yA37 yS37 ?_
 obtain ⟨v1, V1, F1⟩ := zc F0
 refine zQ [(9000, 3)] [] _ _ (m_impl_formOk_ok fuel _ _ _ _ V1) ?_
 refine s_as ?_
 refine zf (zd (zh (zm ?_)))
 cases F1
 exact zk [] [] Tryz.results50
def m_impl_isName_AC (fuel : Nat) : Prop := ∀ (x1 : Form) (r : Bool), zdq fuel x1 = some r → AC Tryz.prog 132 [.ag [.t (.sc (.int .i64 x1.kind)), .t (.sc (.str x1.name)), .t (.sc (.int .i64 x1.n)), .t (.sl (x1.scopes.map rI)), .t (.sl (x1.kids.map Form.row))]] noOb (.t (.sc (.bool r))) noOb
theorem m_impl_isName_ok (fuel : Nat) : m_impl_isName_AC fuel := by
 intro x1 r F0
 unfold zdq at F0
 refine AC_i [.t (.sc (.bool r))] Tryz.func132 rfl Tryz.ntmps132 ?_
 intro C hC
 refine zb (za ?_)
 refine zaF ?_
 refine s_as ?_
 refine zf (zd (zb (za ?_)))
 refine s_fa zc8 ?_
 refine zp yA3 ?_
 refine s_eq ?_
 refine s_mv ?_
 refine zy _ 6 F0 ?_ ?_ <;> intro C1 F1
 refine zad yA37 yS37 ?_
 obtain ⟨v2, V2, F2⟩ := zc F1
 refine zz [] (zfp fuel _ _ V2) ?_
 refine zC ?_
 refine s_as ?_
 refine zf (zd (zh (zm ?_)))
 cases F2
 exact zk [] [] Tryz.results132
 refine r_no rfl (r_no rfl ?_)
 refine zF ?_
 refine s_as ?_
 refine zf (zd (zh (zm ?_)))
 cases F1
 exact zk [] [] Tryz.results132
def zdr (fuel : Nat) : Prop := ∀ (x1 : Form) (x2 : Form) (r : Bool), zbx fuel x1 x2 = some r → AC Tryz.prog 106 [.ag [.t (.sc (.int .i64 x1.kind)), .t (.sc (.str x1.name)), .t (.sc (.int .i64 x1.n)), .t (.sl (x1.scopes.map rI)), .t (.sl (x1.kids.map Form.row))], .ag [.t (.sc (.int .i64 x2.kind)), .t (.sc (.str x2.name)), .t (.sc (.int .i64 x2.n)), .t (.sl (x2.scopes.map rI)), .t (.sl (x2.kids.map Form.row))]] noOb (.t (.sc (.bool r))) noOb
def zaY (fuel : Nat) : Prop := ∀ (x1 : (List Form)) (x2 : (List Form)) (r : Bool), zaG fuel x1 x2 = some r → AC Tryz.prog 138 [.t (.sl (x1.map Form.row)), .t (.sl (x2.map Form.row)), .fn 106 []] noOb (.t (.sc (.bool r))) noOb
theorem m_impl_FormSame_st (fu : Nat) (ih_m_impl_FormSame : ∀ k, k ≤ fu → zdr k) (ih_m_slices_EqualFunc_Form_FormSame : ∀ k, k ≤ fu → zaY k) : zdr (fu + 1) := by
 intro x1 x2 r F0
 rw [zbx] at F0
 refine AC_i [.t (.sc (.bool r))] Tryz.func106 rfl Tryz.ntmps106 ?_
 intro C hC
 refine zb (za ?_)
 refine zaF ?_
 refine zaF ?_
 refine s_as ?_
 refine zf (zd (zb (za ?_)))
 refine s_fa zc8 ?_
 refine zp yA3 ?_
 refine s_fa zc8 ?_
 refine zp yA3 ?_
 refine s_eq ?_
 refine s_mv ?_
 refine zy _ 10 F0 ?_ ?_ <;> intro C1 F1
 refine s_fa zcH ?_
 refine zp yA9 ?_
 refine s_fa zcH ?_
 refine zp yA9 ?_
 refine s_eqS ?_
 refine zC ?_
 refine s_mv ?_
 refine zy _ 17 F1 ?_ ?_ <;> intro C2 F2
 refine s_fa zep ?_
 refine zp yA3 ?_
 refine s_fa zep ?_
 refine zp yA3 ?_
 refine s_eq ?_
 refine zC ?_
 refine s_mv ?_
 refine zy _ 24 F2 ?_ ?_ <;> intro C3 F3
 refine s_fa zeu ?_
 refine zp yA23 ?_
 refine s_fa zeu ?_
 refine zp yA23 ?_
 obtain ⟨v4, V4, F4⟩ := zc F3
 refine zz [] (zf6 fu _ _ _ V4) ?_
 refine zC ?_
 refine s_mv ?_
 refine zy _ 31 F4 ?_ ?_ <;> intro C5 F5
 refine s_fa zZ ?_
 refine zp yA35 ?_
 refine s_fa zZ ?_
 refine zp yA35 ?_
 obtain ⟨v6, V6, F6⟩ := zc F5
 refine zz [] (ih_m_slices_EqualFunc_Form_FormSame fu (by omega) _ _ _ V6) ?_
 refine zC ?_
 refine s_as ?_
 refine zf (zd (zh (zm ?_)))
 cases F6
 exact zk [] [] Tryz.results106
 iterate 5 refine r_no rfl ?_
 refine zF ?_
 refine s_as ?_
 refine zf (zd (zh (zm ?_)))
 cases F5
 exact zk [] [] Tryz.results106
 iterate 5 refine r_no rfl ?_
 refine zF ?_
 refine s_mv ?_
 iterate 5 refine r_no rfl ?_
 refine zF ?_
 refine s_as ?_
 refine zf (zd (zh (zm ?_)))
 cases F3
 exact zk [] [] Tryz.results106
 iterate 5 refine r_no rfl ?_
 refine zF ?_
 refine s_mv ?_
 iterate 5 refine r_no rfl ?_
 refine zF ?_
 refine s_mv ?_
 iterate 5 refine r_no rfl ?_
 refine zF ?_
 refine s_as ?_
 refine zf (zd (zh (zm ?_)))
 cases F2
 exact zk [] [] Tryz.results106
 iterate 5 refine r_no rfl ?_
 refine zF ?_
 refine s_mv ?_
 iterate 5 refine r_no rfl ?_
 refine zF ?_
 refine s_mv ?_
 iterate 5 refine r_no rfl ?_
 refine zF ?_
 refine s_mv ?_
 iterate 5 refine r_no rfl ?_
 refine zF ?_
 refine s_as ?_
 refine zf (zd (zh (zm ?_)))
 cases F1
 exact zk [] [] Tryz.results106
theorem zfn (fu : Nat) (ih_m_impl_FormSame : ∀ k, k ≤ fu → zdr k) (ih_m_slices_EqualFunc_Form_FormSame : ∀ k, k ≤ fu → zaY k) : zaY (fu + 1) := by
 intro x1 x2 r F0
 rw [zaG] at F0
 refine AC_i [.t (.sc (.bool r))] Tryz.func138 rfl Tryz.ntmps138 ?_
 intro C hC
 refine zb (za ?_)
 refine s_as ?_
 refine zf (zd (zb (zb (za ?_))))
 refine s_mv ?_
 refine zE yU35 ?_
 refine s_mv ?_
 refine zE yU35 ?_
 refine s_ne ?_
 refine zf (zd ?_)
 refine zn F0 ?_ ?_ <;> intro C1 F1
 refine zb (za ?_)
 refine s_as ?_
 refine zf (zd (zh (zg (zm ?_))))
 cases F1
 exact zk [] [] Tryz.results138
 refine zi (zd (zb (zb (za ?_))))
 refine s_mv ?_
 refine zE yU35 ?_
 refine s_mv ?_
 refine zf (zd (zl ?_))
 refine zap (β := Int) [6, 7, 8, 9, 17, 18, 19, 20, 21, 22, 23, 24, 25, 26, 27, 28, 29, 30, 31] [] [8, 9] (fun a => [(17, .t (.sc (.int .i64 a.2)))]) (fun a => []) (fun a => a.1 ≤ fu ∧ zW a.1 x1 x2 a.2 = some r ∧ 0 ≤ a.2) (fu, 0) ⟨Nat.le_refl _, F1, by simp⟩ ?_
 clear F1
 rintro ⟨fu, g2⟩ ⟨hl3, F2, hn_g2⟩
 dsimp only at hl3 F2 hn_g2 ⊢
 obtain _ | fu := fu
 · rw [zW] at F2; cases F2
 rw [zW] at F2
 refine zb (za ?_)
 refine s_lt ?_
 refine zf (zd (zb ?_))
 refine zn F2 ?_ ?_ <;> intro C4 F3
 refine zG 0 (fun B5 => ?_)
 refine zi (zd (zb (zl (zb (za ?_)))))
 refine s_mv ?_
 obtain ⟨v6, V6, F4⟩ := zc F3
 refine zL Form.row V6 (Form.row_eq _) yE35 ?_
 refine zag yA37 yS37 ?_
 refine zU yZ37 ?_
 refine s_as ?_
 refine zb4 yS37 ?_
 refine zf (zd (zb (za ?_)))
 refine s_mv ?_
 refine s_mv ?_
 obtain ⟨v7, V7, F5⟩ := zc F4
 refine zL Form.row V7 (Form.row_eq _) yE35 ?_
 refine zag yA37 yS37 ?_
 refine zU yZ37 ?_
 refine zb4 yS37 ?_
 refine zf (zd (zb (za ?_)))
 refine s_mv ?_
 refine zad yA37 yS37 ?_
 refine zad yA37 yS37 ?_
 obtain ⟨v8, V8, F6⟩ := zc F5
 refine zz [] (ih_m_impl_FormSame fu (by omega) _ _ _ V8) ?_
 refine zbC ?_
 refine zf (zd ?_)
 refine zn F6 ?_ ?_ <;> intro C9 F7
 refine zb (za ?_)
 refine s_as ?_
 refine zf (zd (zh (zj (zg (zu (zj (zg (zm ?_))))))))
 cases F7
 exact zk [] [] Tryz.results138
 refine zi (z6 (zd (za ?_)))
 refine zI (zak C4 B5 hn_g2) ?_
 refine s_mv ?_
 refine zf ?_
 exact s_rn (fu, (g2 + 1)) ⟨by first | omega | (dsimp only; omega), F7, by first | omega | (dsimp only; omega)⟩
 refine zB (zw (zr (zx (zd (zb (za ?_))))))
 refine s_as ?_
 refine zf (zd (zh (zm ?_)))
 cases F3
 exact zk [] [] Tryz.results138
theorem m_impl_FormSame_all (fuel : Nat) : zdr fuel ∧ zaY fuel := by
 induction fuel using Nat.strongRecOn with
 | _ N ih =>
   cases N with
   | zero => exact ⟨(by intro x1 x2 r h; rw [zbx] at h; cases h), (by intro x1 x2 r h; rw [zaG] at h; cases h)⟩
   | succ fu => exact ⟨m_impl_FormSame_st fu (fun k hk => (ih k (by omega)).1) (fun k hk => (ih k (by omega)).2), zfn fu (fun k hk => (ih k (by omega)).1) (fun k hk => (ih k (by omega)).2)⟩
theorem zgV (fuel : Nat) : zdr fuel := (m_impl_FormSame_all fuel).1
def m_impl_isIn_1_AC (fuel : Nat) : Prop := ∀ (x1 : Form) (o1 : Form) (r : Bool), zfI fuel x1 o1 = some r → AC Tryz.prog 135 [.ag [.t (.sc (.int .i64 x1.kind)), .t (.sc (.str x1.name)), .t (.sc (.int .i64 x1.n)), .t (.sl (x1.scopes.map rI)), .t (.sl (x1.kids.map Form.row))], .rf 9000 0] (objs [(9000, .box [.t (.sc (.int .i64 o1.kind)), .t (.sc (.str o1.name)), .t (.sc (.int .i64 o1.n)), .t (.sl (o1.scopes.map rI)), .t (.sl (o1.kids.map Form.row))])]) (.t (.sc (.bool r))) (objs [(9000, .box [.t (.sc (.int .i64 o1.kind)), .t (.sc (.str o1.name)), .t (.sc (.int .i64 o1.n)), .t (.sl (o1.scopes.map rI)), .t (.sl (o1.kids.map Form.row))])])
theorem m_impl_isIn_1_ok (fuel : Nat) : m_impl_isIn_1_AC fuel := by
 intro x1 o1 r F0
 unfold zfI at F0
 refine AC_i [.t (.sc (.bool r))] Tryz.func135 rfl Tryz.ntmps135 ?_
 intro C hC
 refine zb (za ?_)
 refine zaF ?_
 refine s_as ?_
 refine zf (zd (zb (za ?_)))
 refine zad yA37 yS37 ?_
 refine zad yA37 yS37 ?_
 obtain ⟨v1, V1, F1⟩ := zc F0
 refine zz [] (zgV fuel _ _ _ V1) ?_
 refine s_as ?_
 refine zf (zd (zh (zm ?_)))
 cases F1
 exact zk _ [] Tryz.results135
def zfE (fuel : Nat) : Prop := ∀ (x1 : (List Form)) (o1 : Form) (r : Int), zbK fuel x1 o1 = some r → AC Tryz.prog 139 [.t (.sl (x1.map Form.row)), .fn 135 [.rf 9000 0]] (objs [(9000, .box [.t (.sc (.int .i64 o1.kind)), .t (.sc (.str o1.name)), .t (.sc (.int .i64 o1.n)), .t (.sl (o1.scopes.map rI)), .t (.sl (o1.kids.map Form.row))])]) (.t (.sc (.int .i64 r))) (objs [(9000, .box [.t (.sc (.int .i64 o1.kind)), .t (.sc (.str o1.name)), .t (.sc (.int .i64 o1.n)), .t (.sl (o1.scopes.map rI)), .t (.sl (o1.kids.map Form.row))])])
theorem zfD (fuel : Nat) : zfE fuel := by
 intro x1 o1 r F0
 unfold zbK at F0
 refine AC_i [.t (.sc (.int .i64 r))] Tryz.func139 rfl Tryz.ntmps139 ?_
 intro C hC
 refine zb (za ?_)
 refine s_as ?_
 refine zf (zd (zb (zb (za ?_))))
 refine s_mv ?_
 refine zE yU35 ?_
 refine s_mv ?_
 refine zf (zd (zl ?_))
 refine zap (β := Int) [4, 5, 8, 9, 10, 11, 12, 13, 14, 15, 16, 17, 18] [] [] (fun a => [(8, .t (.sc (.int .i64 a.2)))]) (fun a => []) (fun a => a.1 ≤ fuel ∧ z7 a.1 x1 o1 a.2 = some r ∧ 0 ≤ a.2) (fuel, 0) ⟨Nat.le_refl _, F0, by simp⟩ ?_
 clear F0
 rintro ⟨fu, g1⟩ ⟨hl2, F1, hn_g1⟩
 dsimp only at hl2 F1 hn_g1 ⊢
 obtain _ | fu := fu
 · rw [z7] at F1; cases F1
 rw [z7] at F1
 refine zb (za ?_)
 refine s_lt ?_
 refine zf (zd (zb ?_))
 refine zn F1 ?_ ?_ <;> intro C3 F2
 refine zG 0 (fun B4 => ?_)
 refine zi (zd (zb (zl (zb (za ?_)))))
 refine s_mv ?_
 refine s_as ?_
 refine zf (zd (zb (za ?_)))
 iterate 3 refine s_mv ?_
 obtain ⟨v5, V5, F3⟩ := zc F2
 refine zL Form.row V5 (Form.row_eq _) yE35 ?_
 refine zag yA37 yS37 ?_
 obtain ⟨v6, V6, F4⟩ := zc F3
 refine zQ [(9000, 9000)] [] _ _ (m_impl_isIn_1_ok fu _ _ _ V6) ?_
 refine zf (zd ?_)
 refine zn F4 ?_ ?_ <;> intro C7 F5
 refine zb (za ?_)
 refine s_mv ?_
 refine s_as ?_
 refine zf (zd (zh (zj (zg (zu (zj (zg (zm ?_))))))))
 cases F5
 exact zk _ [] Tryz.results139
 refine zi (z6 (zd (za ?_)))
 refine zI (zak C3 B4 hn_g1) ?_
 refine s_mv ?_
 refine zf ?_
 exact s_rn (fu, (g1 + 1)) ⟨by first | omega | (dsimp only; omega), F5, by first | omega | (dsimp only; omega)⟩
 refine zB (zw (zr (zx (zd (zb (za ?_))))))
 refine s_as ?_
 refine zf (zd (zh (zm ?_)))
 cases F2
 exact zk _ [] Tryz.results139
def ze4 (fuel : Nat) : Prop := ∀ (x1 : (List Form)) (o1 : Form) (r : Bool), zbf fuel x1 o1 = some r → AC Tryz.prog 134 [.t (.sl (x1.map Form.row)), .fn 135 [.rf 9000 0]] (objs [(9000, .box [.t (.sc (.int .i64 o1.kind)), .t (.sc (.str o1.name)), .t (.sc (.int .i64 o1.n)), .t (.sl (o1.scopes.map rI)), .t (.sl (o1.kids.map Form.row))])]) (.t (.sc (.bool r))) (objs [(9000, .box [.t (.sc (.int .i64 o1.kind)), .t (.sc (.str o1.name)), .t (.sc (.int .i64 o1.n)), .t (.sl (o1.scopes.map rI)), .t (.sl (o1.kids.map Form.row))])])
theorem ze3 (fuel : Nat) : ze4 fuel := by
 intro x1 o1 r F0
 unfold zbf at F0
 refine AC_i [.t (.sc (.bool r))] Tryz.func134 rfl Tryz.ntmps134 ?_
 intro C hC
 refine zb (za ?_)
 refine s_as ?_
 refine zf (zd (zb (za ?_)))
 refine s_mv ?_
 refine s_mv ?_
 obtain ⟨v1, V1, F1⟩ := zc F0
 refine zQ [(9000, 9000)] [] _ _ (zfD fuel _ _ _ V1) ?_
 refine s_ge ?_
 refine s_as ?_
 refine zf (zd (zh (zm ?_)))
 cases F1
 exact zk _ [] Tryz.results134
def m_impl_isIn_AC (fuel : Nat) : Prop := ∀ (x1 : (List Form)) (x2 : Form) (r : Bool), zeD fuel x1 x2 = some r → AC Tryz.prog 102 [.t (.sl (x1.map Form.row)), .ag [.t (.sc (.int .i64 x2.kind)), .t (.sc (.str x2.name)), .t (.sc (.int .i64 x2.n)), .t (.sl (x2.scopes.map rI)), .t (.sl (x2.kids.map Form.row))]] noOb (.t (.sc (.bool r))) noOb
theorem zg3 (fuel : Nat) : m_impl_isIn_AC fuel := by
 intro x1 x2 r F0
 unfold zeD at F0
 refine AC_i [.t (.sc (.bool r))] Tryz.func102 rfl Tryz.ntmps102 ?_
 intro C hC
 refine zb (za ?_)
 refine zaF ?_
 refine s_as ?_
 refine zf (zd (zb (za ?_)))
 refine s_mv ?_
 refine s_fn ?_
 obtain ⟨v1, V1, F1⟩ := zc F0
 refine zQ [(9000, 3)] [] _ _ (ze3 fuel _ _ _ V1) ?_
 refine s_as ?_
 refine zf (zd (zh (zm ?_)))
 cases F1
 exact zk [] [] Tryz.results102
def m_impl_literalsOk_AC (fuel : Nat) : Prop := ∀ (x1 : (List Form)) (r : Bool), zcX fuel x1 = some r → AC Tryz.prog 98 [.t (.sl (x1.map Form.row))] noOb (.t (.sc (.bool r))) noOb
theorem zgl (fuel : Nat) : m_impl_literalsOk_AC fuel := by
 intro x1 r F0
 unfold zcX at F0
 refine AC_i [.t (.sc (.bool r))] Tryz.func98 rfl Tryz.ntmps98 ?_
 intro C hC
 refine zb (za ?_)
 refine s_as ?_
 refine zf (zd (zb (zb (za ?_))))
 refine s_mv ?_
 refine zE yU35 ?_
 refine s_mv ?_
 refine zf (zd (zl ?_))
 refine zap (β := Int) [2, 3, 4, 7, 8, 9, 10, 11, 12, 13, 14, 15, 16, 17, 18, 19, 20, 21, 22, 23, 24, 25, 26, 27, 28, 29, 30, 31, 32] [] [4] (fun a => [(7, .t (.sc (.int .i64 a.2)))]) (fun a => []) (fun a => a.1 ≤ fuel ∧ zba a.1 x1 a.2 = some r ∧ 0 ≤ a.2) (fuel, 0) ⟨Nat.le_refl _, F0, by simp⟩ ?_
 clear F0
 rintro ⟨fu, g1⟩ ⟨hl2, F1, hn_g1⟩
 dsimp only at hl2 F1 hn_g1 ⊢
 obtain _ | fu := fu
 · rw [zba] at F1; cases F1
 rw [zba] at F1
 refine zb (za ?_)
 refine s_lt ?_
 refine zf (zd (zb ?_))
 refine zn F1 ?_ ?_ <;> intro C3 F2
 refine zG 0 (fun B4 => ?_)
 refine zi (zd (zb (zl (zb (za ?_)))))
 refine s_mv ?_
 obtain ⟨v5, V5, F3⟩ := zc F2
 refine zL Form.row V5 (Form.row_eq _) yE35 ?_
 refine zag yA37 yS37 ?_
 refine zU yZ37 ?_
 refine s_as ?_
 refine zb4 yS37 ?_
 refine zf (zd (zb ?_))
 refine zaf yMix (by kernel_rfl) ?_
 refine zad yA37 yS37 ?_
 obtain ⟨v6, V6, F4⟩ := zc F3
 refine zz [] (m_impl_isName_ok fu _ _ V6) ?_
 refine zbC ?_
 refine s_mv ?_
 refine zy _ 15 F4 ?_ ?_ <;> intro C7 F5
 iterate 3 refine r_no rfl ?_
 refine zC ?_
 refine s_mv ?_
 iterate 3 refine r_no rfl ?_
 refine zC ?_
 refine s_mv ?_
 iterate 5 refine r_no rfl ?_
 refine zC ?_
 refine zao (by kernel_rfl) ?_
 refine zd (zM rfl (zb (za ?_)))
 refine s_as ?_
 refine zf (zd (zh (zj (zg (zu (zj (zg (zm ?_))))))))
 cases F5
 exact zk [] [] Tryz.results98
 refine s_fa zcH ?_
 refine zp yA9 ?_
 refine s_eqS ?_
 refine zF ?_
 refine s_mv ?_
 refine zy _ 20 F5 ?_ ?_ <;> intro C8 F6
 iterate 3 refine r_no rfl ?_
 refine zC ?_
 refine s_mv ?_
 iterate 5 refine r_no rfl ?_
 refine zC ?_
 refine zao (by kernel_rfl) ?_
 refine zd (zM rfl (zb (za ?_)))
 refine s_as ?_
 refine zf (zd (zh (zj (zg (zu (zj (zg (zm ?_))))))))
 cases F6
 exact zk [] [] Tryz.results98
 refine s_fa zcH ?_
 refine zp yA9 ?_
 refine s_eqS ?_
 refine zF ?_
 refine s_mv ?_
 refine zy _ 25 F6 ?_ ?_ <;> intro C9 F7
 iterate 5 refine r_no rfl ?_
 refine zC ?_
 refine zao (by kernel_rfl) ?_
 refine zd (zM rfl (zb (za ?_)))
 refine s_as ?_
 refine zf (zd (zh (zj (zg (zu (zj (zg (zm ?_))))))))
 cases F7
 exact zk [] [] Tryz.results98
 refine s_mv ?_
 refine s_mv ?_
 obtain ⟨v10, V10, F8⟩ := zc F7
 refine s_sl01 Form.row (fun y => Form.row_len y) V10 yU35 yE35 ?_
 refine zad yA37 yS37 ?_
 obtain ⟨v11, V11, F9⟩ := zc F8
 refine zz [] (zg3 fu _ _ _ V11) ?_
 refine zF ?_
 refine zao (by kernel_rfl) ?_
 refine zd ?_
 refine zn F9 ?_ ?_ <;> intro C12 F10
 refine zb (za ?_)
 refine s_as ?_
 refine zf (zd (zh (zj (zg (zu (zj (zg (zm ?_))))))))
 cases F10
 exact zk [] [] Tryz.results98
 refine zi (z6 (zd (za ?_)))
 refine zI (zak C3 B4 hn_g1) ?_
 refine s_mv ?_
 refine zf ?_
 exact s_rn (fu, (g1 + 1)) ⟨by first | omega | (dsimp only; omega), F10, by first | omega | (dsimp only; omega)⟩
 refine zB (zw (zr (zx (zd (zb (za ?_))))))
 refine s_mv ?_
 refine zE yU35 ?_
 refine s_le ?_
 refine s_as ?_
 refine zf (zd (zh (zm ?_)))
 cases F2
 exact zk [] [] Tryz.results98
end Go.Abs
