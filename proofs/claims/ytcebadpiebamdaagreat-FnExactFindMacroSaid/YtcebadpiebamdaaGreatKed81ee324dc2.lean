/- A part of the proof: what the functions that the law calls answer, as pure values. -/
import Derived.Test.YtcebadpiebamdaaGreatK3cde84ceb574
import Derived.Test.YtcebadpiebamdaaGreatK084892eefba9
import Derived.Test.YtcebadpiebamdaaGreatK749896bffbad
import Derived.Test.YtcebadpiebamdaaGreatKfbd980a3bd19
import Derived.Test.YtcebadpiebamdaaGreatK423f84c32d54
import Derived.Test.YtcebadpiebamdaaGreatKf37186a4b7f9
import Derived.Test.YtcebadpiebamdaaGreatKf8de2f3a577a
set_option linter.unusedSimpArgs false
set_option linter.unusedVariables false
set_option maxRecDepth 100000
set_option maxHeartbeats 4000000
namespace Go.Abs
open Go.Proofs
def zca (fuel : Nat) : Prop := ∀ (x1 : Form) (o1 : Bool) (o2 : (List Form)) (o3 : (List Int)) (o4 : Int) (r : Bool), zaL fuel x1 o1 o2 o3 o4 = some r → AC Tryz.prog 153 [.ag [.t (.sc (.int .i64 x1.kind)), .t (.sc (.str x1.name)), .t (.sc (.int .i64 x1.n)), .t (.sl (x1.scopes.map rI)), .t (.sl (x1.kids.map Form.row))], .fn 181 [.rf 9000 0, .rf 9001 0, .rf 9002 0, .rf 9003 0]] (objs [(9000, .box [.t (.sc (.bool o1))]), (9001, .box [.t (.sl (o2.map Form.row))]), (9002, .box [.t (.sl (o3.map rI))]), (9003, .box [.t (.sc (.int .i64 o4))])]) (.tp []) (objs [(9000, .box [.t (.sc (.bool r))]), (9001, .box [.t (.sl (o2.map Form.row))]), (9002, .box [.t (.sl (o3.map rI))]), (9003, .box [.t (.sc (.int .i64 o4))])])
theorem zgB (fu : Nat) (ih_m_impl_eachForm_rowsOk_1 : ∀ k, k ≤ fu → zca k) : zca (fu + 1) := by
 intro x1 o1 o2 o3 o4 r F0
 rw [zaL] at F0
 refine AC_i [] Tryz.func153 rfl Tryz.ntmps153 ?_
 intro C hC
 refine zb (za ?_)
 refine zaF ?_
 refine zf (zd (zb (za ?_)))
 refine s_mv ?_
 refine zad yA37 yS37 ?_
 obtain ⟨v1, V1, F1⟩ := zc F0
 refine zQ [(9000, 9000), (9001, 9001), (9002, 9002), (9003, 9003)] [] _ _ (m_impl_rowsOk_1_ok fu _ _ _ _ _ _ V1) ?_
 refine zf (zd (zb (za ?_)))
 refine s_fa zZ ?_
 refine zp yA35 ?_
 refine zE yU35 ?_
 refine s_mv ?_
 refine zf (zd (zl ?_))
 refine zap (β := Int × Bool) [5, 12, 13, 14, 15, 16, 17, 18, 19] [9000] [5] (fun a => [(12, .t (.sc (.int .i64 a.2.1)))]) (fun a => [(9000, .box [.t (.sc (.bool a.2.2))])]) (fun a => a.1 ≤ fu ∧ zah a.1 x1 o2 o3 o4 a.2.1 a.2.2 = some r ∧ 0 ≤ a.2.1) (fu, 0, v1) ⟨Nat.le_refl _, F1, by simp⟩ ?_
 clear F1
 rintro ⟨fu, g2, g3⟩ ⟨hl4, F2, hn_g2⟩
 dsimp only at hl4 F2 hn_g2 ⊢
 obtain _ | fu := fu
 · rw [zah] at F2; cases F2
 rw [zah] at F2
 refine zb (za ?_)
 refine s_lt ?_
 refine zf (zd (zb ?_))
 refine zn F2 ?_ ?_ <;> intro C5 F3
 refine zG 10 (fun B6 => ?_)
 refine zi (zd (zb (zl (zb (za ?_)))))
 obtain ⟨v7, V7, F4⟩ := zc F3
 refine zL Form.row V7 (Form.row_eq _) yE35 ?_
 refine zag yA37 yS37 ?_
 refine zU yZ37 ?_
 refine zb4 yS37 ?_
 refine zf (zd (za ?_))
 refine zad yA37 yS37 ?_
 refine s_mv ?_
 obtain ⟨v8, V8, F5⟩ := zc F4
 refine zQ [(9000, 9000), (9001, 9001), (9002, 9002), (9003, 9003)] [] _ _ (ih_m_impl_eachForm_rowsOk_1 fu (by omega) _ _ _ _ _ _ V8) ?_
 refine zf (z6 (zd (za ?_)))
 refine zI (zak C5 B6 hn_g2) ?_
 refine s_mv ?_
 refine zf ?_
 exact s_rn (fu, (g2 + 1), v8) ⟨by first | omega | (dsimp only; omega), F5, by first | omega | (dsimp only; omega)⟩
 refine zB (zw (zr (zx (k_fin_end ?_))))
 cases F3
 exact zk _ [] Tryz.results153
theorem zgr (fuel : Nat) : zca fuel := by
 induction fuel using Nat.strongRecOn with
 | _ N ih =>
   cases N with
   | zero => exact (by intro x1 o1 o2 o3 o4 r h; rw [zaL] at h; cases h)
   | succ fu => exact zgB fu (fun k hk => (ih k (by omega)))
theorem zgC (fuel : Nat) : zca fuel := (zgr fuel)
def zfc (fuel : Nat) : Prop := ∀ (x1 : Form) (x2 : (List Form)) (x3 : (List Int)) (x4 : Int) (r : Bool), zcs fuel x1 x2 x3 x4 = some r → AC Tryz.prog 166 [.ag [.t (.sc (.int .i64 x1.kind)), .t (.sc (.str x1.name)), .t (.sc (.int .i64 x1.n)), .t (.sl (x1.scopes.map rI)), .t (.sl (x1.kids.map Form.row))], .t (.sl (x2.map Form.row)), .t (.sl (x3.map rI)), .t (.sc (.int .i64 x4))] noOb (.t (.sc (.bool r))) noOb
theorem m_impl_rowsOk_st (fu : Nat) (ih_m_impl_rowsOk : ∀ k, k ≤ fu → zfc k) : zfc (fu + 1) := by
 intro x1 x2 x3 x4 r F0
 rw [zcs] at F0
 refine AC_i [.t (.sc (.bool r))] Tryz.func166 rfl Tryz.ntmps166 ?_
 intro C hC
 refine zb (za ?_)
 iterate 4 refine zaF ?_
 refine s_as ?_
 refine zf (zd (zb (zb ?_)))
 refine zaf yMix (by kernel_rfl) ?_
 refine zp yA35 ?_
 refine zp yA23 ?_
 refine zad yA37 yS37 ?_
 obtain ⟨v1, V1, F1⟩ := zc F0
 refine zz [] (zhi fu _ _ _ _ V1) ?_
 refine zp yA3 ?_
 refine s_gt ?_
 refine zao (by kernel_rfl) ?_
 refine zd ?_
 refine zn F1 ?_ ?_ <;> intro C2 F2
 refine zb (za ?_)
 refine s_as ?_
 refine zf (zd (zh (zg (zm ?_))))
 cases F2
 exact zk [] [] Tryz.results166
 refine zi (zd (zb (zb (za ?_))))
 refine s_fa zZ ?_
 refine zp yA35 ?_
 refine zE yU35 ?_
 refine s_mv ?_
 refine zf (zd (zl ?_))
 refine zap (β := Int) [8, 9, 10, 11, 12, 22, 23, 24, 25, 26, 27, 28, 29, 30, 31, 32, 33, 34, 35, 36, 37, 38, 39, 40, 41, 42, 43, 44, 45, 46, 47, 48, 49, 50, 51, 52, 53, 54, 55, 56, 57, 58] [] [10, 12] (fun a => [(22, .t (.sc (.int .i64 a.2)))]) (fun a => []) (fun a => a.1 ≤ fu ∧ zaJ a.1 x1 x2 x3 x4 a.2 = some r ∧ 0 ≤ a.2) (fu, 0) ⟨Nat.le_refl _, F2, by simp⟩ ?_
 clear F2
 rintro ⟨fu, g3⟩ ⟨hl4, F3, hn_g3⟩
 dsimp only at hl4 F3 hn_g3 ⊢
 obtain _ | fu := fu
 · rw [zaJ] at F3; cases F3
 rw [zaJ] at F3
 refine zb (za ?_)
 refine s_lt ?_
 refine zf (zd (zb ?_))
 refine zn F3 ?_ ?_ <;> intro C5 F4
 refine zG 20 (fun B6 => ?_)
 refine zi (zd (zb (zl (zb (za ?_)))))
 refine s_mv ?_
 obtain ⟨v7, V7, F5⟩ := zc F4
 refine zL Form.row V7 (Form.row_eq _) yE35 ?_
 refine zag yA37 yS37 ?_
 refine zU yZ37 ?_
 refine s_as ?_
 refine zb4 yS37 ?_
 refine zf (zd (zb (zb (za ?_))))
 refine zad yA37 yS37 ?_
 obtain ⟨v8, V8, F6⟩ := zc F5
 refine zz [] (zb9 fu _ _ _ V8) ?_
 refine zf (zd ?_)
 refine zn F6 ?_ ?_ <;> intro C9 F7
 refine zB (zw (zx (zd (za ?_))))
 refine zI (zak C5 B6 hn_g3) ?_
 refine s_mv ?_
 refine zf ?_
 exact s_rn (fu, (g3 + 1)) ⟨by first | omega | (dsimp only; omega), F7, by first | omega | (dsimp only; omega)⟩
 refine zi (zd (zb (za ?_)))
 refine zp yA3 ?_
 refine s_as ?_
 refine zf (zd (zb (zb (za ?_))))
 refine s_mv ?_
 refine zI (zak C5 B6 hn_g3) ?_
 refine s_fa zZ ?_
 refine zp yA35 ?_
 refine zE yU35 ?_
 refine s_lt ?_
 refine s_mv ?_
 refine zy _ 36 F7 ?_ ?_ <;> intro C10 F8
 refine s_fa zZ ?_
 refine zp yA35 ?_
 refine s_mv ?_
 refine zI (zak C5 B6 hn_g3) ?_
 obtain ⟨v11, V11, F9⟩ := zc F8
 refine zL Form.row V11 (Form.row_eq _) yE35 ?_
 refine zag yA37 yS37 ?_
 obtain ⟨v12, V12, F10⟩ := zc F9
 refine zz [] (zb9 fu _ _ _ V12) ?_
 refine zC ?_
 refine zf (zd ?_)
 refine zn F10 ?_ ?_ <;> intro C13 F11
 refine zb (za ?_)
 refine s_mv ?_
 refine zI rfl ?_
 refine s_as ?_
 refine zf (zd (zb (za ?_)))
 refine zU yZ4 ?_
 refine zb4 yS4 ?_
 refine zf (zd (zb (za ?_)))
 refine zad yA37 yS37 ?_
 refine s_fn ?_
 obtain ⟨v14, V14, F12⟩ := zc F11
 refine zQ [(9000, 12), (9001, 5), (9002, 6), (9003, 7)] [] _ _ (zgC fu _ _ _ _ _ _ V14) ?_
 refine zf (zd (zb (za ?_)))
 refine zp yA4 ?_
 refine zbC ?_
 refine zf (zd ?_)
 refine zn F12 ?_ ?_ <;> intro C15 F13
 refine zb (za ?_)
 refine s_as ?_
 refine zf (zd (zh (zg (zj (zg (zu (zj (zg (zm ?_)))))))))
 cases F13
 exact zk [] [] Tryz.results166
 refine zi (zd (zb (za ?_)))
 refine zad yA37 yS37 ?_
 refine zp yA35 ?_
 refine zp yA23 ?_
 refine s_mv ?_
 obtain ⟨v16, V16, F14⟩ := zc F13
 refine zz [] (ih_m_impl_rowsOk fu (by omega) _ _ _ _ _ V16) ?_
 refine zbC ?_
 refine zf (zd ?_)
 refine zn F14 ?_ ?_ <;> intro C17 F15
 refine zb (za ?_)
 refine s_as ?_
 refine zf (zd (zh (zj (zg (zu (zj (zg (zm ?_))))))))
 cases F15
 exact zk [] [] Tryz.results166
 refine zi (z6 (zd (za ?_)))
 refine zI (zak C5 B6 hn_g3) ?_
 refine s_mv ?_
 refine zf ?_
 exact s_rn (fu, (g3 + 1)) ⟨by first | omega | (dsimp only; omega), F15, by first | omega | (dsimp only; omega)⟩
 refine zi (zd (zb (za ?_)))
 refine zad yA37 yS37 ?_
 refine zp yA35 ?_
 refine zp yA23 ?_
 refine s_mv ?_
 obtain ⟨v18, V18, F12⟩ := zc F11
 refine zz [] (ih_m_impl_rowsOk fu (by omega) _ _ _ _ _ V18) ?_
 refine zbC ?_
 refine zf (zd ?_)
 refine zn F12 ?_ ?_ <;> intro C19 F13
 refine zb (za ?_)
 refine s_as ?_
 refine zf (zd (zh (zj (zg (zu (zj (zg (zm ?_))))))))
 cases F13
 exact zk [] [] Tryz.results166
 refine zi (z6 (zd (za ?_)))
 refine zI (zak C5 B6 hn_g3) ?_
 refine s_mv ?_
 refine zf ?_
 exact s_rn (fu, (g3 + 1)) ⟨by first | omega | (dsimp only; omega), F13, by first | omega | (dsimp only; omega)⟩
 iterate 7 refine r_no rfl ?_
 refine zF ?_
 refine zf (zd (zci rfl (zi (zd (zb (za ?_))))))
 refine zad yA37 yS37 ?_
 refine zp yA35 ?_
 refine zp yA23 ?_
 refine s_mv ?_
 obtain ⟨v20, V20, F9⟩ := zc F8
 refine zz [] (ih_m_impl_rowsOk fu (by omega) _ _ _ _ _ V20) ?_
 refine zbC ?_
 refine zf (zd ?_)
 refine zn F9 ?_ ?_ <;> intro C21 F10
 refine zb (za ?_)
 refine s_as ?_
 refine zf (zd (zh (zj (zg (zu (zj (zg (zm ?_))))))))
 cases F10
 exact zk [] [] Tryz.results166
 refine zi (z6 (zd (za ?_)))
 refine zI (zak C5 B6 hn_g3) ?_
 refine s_mv ?_
 refine zf ?_
 exact s_rn (fu, (g3 + 1)) ⟨by first | omega | (dsimp only; omega), F10, by first | omega | (dsimp only; omega)⟩
 refine zB (zw (zr (zx (zd (zb (za ?_))))))
 refine s_as ?_
 refine zf (zd (zh (zm ?_)))
 cases F4
 exact zk [] [] Tryz.results166
theorem m_impl_rowsOk_all (fuel : Nat) : zfc fuel := by
 induction fuel using Nat.strongRecOn with
 | _ N ih =>
   cases N with
   | zero => exact (by intro x1 x2 x3 x4 r h; rw [zcs] at h; cases h)
   | succ fu => exact m_impl_rowsOk_st fu (fun k hk => (ih k (by omega)))
theorem m_impl_rowsOk_ok (fuel : Nat) : zfc fuel := (m_impl_rowsOk_all fuel)
def m_impl_templateOk_AC (fuel : Nat) : Prop := ∀ (x1 : Form) (x2 : (List Form)) (x3 : (List Int)) (r : Bool), zdP fuel x1 x2 x3 = some r → AC Tryz.prog 149 [.ag [.t (.sc (.int .i64 x1.kind)), .t (.sc (.str x1.name)), .t (.sc (.int .i64 x1.n)), .t (.sl (x1.scopes.map rI)), .t (.sl (x1.kids.map Form.row))], .t (.sl (x2.map Form.row)), .t (.sl (x3.map rI))] noOb (.t (.sc (.bool r))) noOb
theorem m_impl_templateOk_ok (fuel : Nat) : m_impl_templateOk_AC fuel := by
 intro x1 x2 x3 r F0
 unfold zdP at F0
 refine AC_i [.t (.sc (.bool r))] Tryz.func149 rfl Tryz.ntmps149 ?_
 intro C hC
 refine zb (za ?_)
 refine zaF ?_
 refine s_as ?_
 refine zf (zd (zb (za ?_)))
 refine zad yA37 yS37 ?_
 obtain ⟨v1, V1, F1⟩ := zc F0
 refine zz [] (zfp fuel _ _ V1) ?_
 refine s_mv ?_
 refine zy _ 9 F1 ?_ ?_ <;> intro C2 F2
 refine zad yA37 yS37 ?_
 obtain ⟨v3, V3, F3⟩ := zc F2
 refine zz [] (zb9 fuel _ _ _ V3) ?_
 refine zbC ?_
 refine zC ?_
 refine s_mv ?_
 refine zy _ 14 F3 ?_ ?_ <;> intro C4 F4
 refine zad yA37 yS37 ?_
 obtain ⟨v5, V5, F5⟩ := zc F4
 refine zz [] (m_impl_dotsOk_ok fuel _ _ _ V5) ?_
 refine zC ?_
 refine s_mv ?_
 refine zy _ 18 F5 ?_ ?_ <;> intro C6 F6
 refine zad yA37 yS37 ?_
 refine s_mv ?_
 refine s_mv ?_
 obtain ⟨v7, V7, F7⟩ := zc F6
 refine zz [] (m_impl_rowsOk_ok fuel _ _ _ _ _ V7) ?_
 refine zC ?_
 refine s_as ?_
 refine zf (zd (zh (zm ?_)))
 cases F7
 exact zk [] [] Tryz.results149
 iterate 4 refine r_no rfl ?_
 refine zF ?_
 refine s_as ?_
 refine zf (zd (zh (zm ?_)))
 cases F6
 exact zk [] [] Tryz.results149
 refine r_no rfl (r_no rfl ?_)
 refine zF ?_
 refine s_mv ?_
 iterate 4 refine r_no rfl ?_
 refine zF ?_
 refine s_as ?_
 refine zf (zd (zh (zm ?_)))
 cases F4
 exact zk [] [] Tryz.results149
 iterate 3 refine r_no rfl ?_
 refine zF ?_
 refine s_mv ?_
 refine r_no rfl (r_no rfl ?_)
 refine zF ?_
 refine s_mv ?_
 iterate 4 refine r_no rfl ?_
 refine zF ?_
 refine s_as ?_
 refine zf (zd (zh (zm ?_)))
 cases F2
 exact zk [] [] Tryz.results149
def m_impl_RuleValid_AC (fuel : Nat) : Prop := ∀ (x1 : Rule) (x2 : (List Form)) (r : Bool), zeh fuel x1 x2 = some r → AC Tryz.prog 144 [.ag [.t (.sc (.int .i64 x1.pattern.kind)), .t (.sc (.str x1.pattern.name)), .t (.sc (.int .i64 x1.pattern.n)), .t (.sl (x1.pattern.scopes.map rI)), .t (.sl (x1.pattern.kids.map Form.row)), .t (.sc (.int .i64 x1.template.kind)), .t (.sc (.str x1.template.name)), .t (.sc (.int .i64 x1.template.n)), .t (.sl (x1.template.scopes.map rI)), .t (.sl (x1.template.kids.map Form.row))], .t (.sl (x2.map Form.row))] noOb (.t (.sc (.bool r))) noOb
theorem m_impl_RuleValid_ok (fuel : Nat) : m_impl_RuleValid_AC fuel := by
 intro x1 x2 r F0
 unfold zeh at F0
 refine AC_i [.t (.sc (.bool r))] Tryz.func144 rfl Tryz.ntmps144 ?_
 intro C hC
 refine zb (za ?_)
 refine zaF ?_
 refine s_as ?_
 refine zf (zd (zb (zb (za ?_))))
 refine s_fa zd3 ?_
 refine zag yA37 yS37 ?_
 refine s_mv ?_
 obtain ⟨v1, V1, F1⟩ := zc F0
 refine zz [] (m_impl_PatternValid_ok fuel _ _ _ V1) ?_
 refine zbC ?_
 refine s_mv ?_
 refine zy _ 12 F1 ?_ ?_ <;> intro C2 F2
 iterate 4 refine r_no rfl ?_
 refine zC ?_
 refine s_mv ?_
 iterate 5 refine r_no rfl ?_
 refine zC ?_
 refine zf (zd (zM rfl (zb (za ?_))))
 refine s_as ?_
 refine zf (zd (zh (zg (zm ?_))))
 cases F2
 exact zk [] [] Tryz.results144
 refine s_fa zd3 ?_
 refine s_fa zc8 ?_
 refine zp yA3 ?_
 refine s_ne ?_
 refine zF ?_
 refine s_mv ?_
 refine zy _ 18 F2 ?_ ?_ <;> intro C3 F3
 iterate 5 refine r_no rfl ?_
 refine zC ?_
 refine zf (zd (zM rfl (zb (za ?_))))
 refine s_as ?_
 refine zf (zd (zh (zg (zm ?_))))
 cases F3
 exact zk [] [] Tryz.results144
 refine s_fa zd3 ?_
 refine s_fa zZ ?_
 refine zp yA35 ?_
 refine zE yU35 ?_
 refine s_eq ?_
 refine zF ?_
 refine zf (zd ?_)
 refine zn F3 ?_ ?_ <;> intro C4 F4
 refine zb (za ?_)
 refine s_as ?_
 refine zf (zd (zh (zg (zm ?_))))
 cases F4
 exact zk [] [] Tryz.results144
 refine zi (zd (zb (za ?_)))
 refine s_fa zd3 ?_
 refine zag yA37 yS37 ?_
 refine s_mv ?_
 obtain ⟨v5, V5, F5⟩ := zc F4
 refine zQ [(9200, 2029)] [] _ _ (m_impl_varsOf_ok fuel _ _ _ V5) ?_
 refine s_mv ?_
 refine s_ext ?_
 refine s_ext ?_
 refine s_as ?_
 refine s_as ?_
 refine zf (zd (zb (za ?_)))
 refine s_fa zfr ?_
 refine zag yA37 yS37 ?_
 refine s_mv ?_
 refine s_mv ?_
 obtain ⟨v6, V6, F6⟩ := zc F5
 refine zz [2029] (m_impl_templateOk_ok fuel _ _ _ _ V6) ?_
 refine s_as ?_
 refine zf (zd (zh (zm ?_)))
 cases F6
 exact zk [] [] Tryz.results144
def m_impl_rulesOk_1_AC (fuel : Nat) : Prop := ∀ (x1 : Rule) (o1 : (List Form)) (r : Bool), zef fuel x1 o1 = some r → AC Tryz.prog 143 [.ag [.t (.sc (.int .i64 x1.pattern.kind)), .t (.sc (.str x1.pattern.name)), .t (.sc (.int .i64 x1.pattern.n)), .t (.sl (x1.pattern.scopes.map rI)), .t (.sl (x1.pattern.kids.map Form.row)), .t (.sc (.int .i64 x1.template.kind)), .t (.sc (.str x1.template.name)), .t (.sc (.int .i64 x1.template.n)), .t (.sl (x1.template.scopes.map rI)), .t (.sl (x1.template.kids.map Form.row))], .rf 9000 0] (objs [(9000, .box [.t (.sl (o1.map Form.row))])]) (.t (.sc (.bool r))) (objs [(9000, .box [.t (.sl (o1.map Form.row))])])
theorem m_impl_rulesOk_1_ok (fuel : Nat) : m_impl_rulesOk_1_AC fuel := by
 intro x1 o1 r F0
 unfold zef at F0
 refine AC_i [.t (.sc (.bool r))] Tryz.func143 rfl Tryz.ntmps143 ?_
 intro C hC
 refine zb (za ?_)
 refine zaF ?_
 refine s_as ?_
 refine zf (zd (zb (za ?_)))
 refine zad yA96 yS96 ?_
 refine zp yA35 ?_
 obtain ⟨v1, V1, F1⟩ := zc F0
 refine zz [] (m_impl_RuleValid_ok fuel _ _ _ V1) ?_
 refine zbC ?_
 refine s_as ?_
 refine zf (zd (zh (zm ?_)))
 cases F1
 exact zk _ [] Tryz.results143
def ze0 (fuel : Nat) : Prop := ∀ (x1 : (List Rule)) (o1 : (List Form)) (r : Int), zbd fuel x1 o1 = some r → AC Tryz.prog 163 [.t (.sl (x1.map Rule.row)), .fn 143 [.rf 9000 0]] (objs [(9000, .box [.t (.sl (o1.map Form.row))])]) (.t (.sc (.int .i64 r))) (objs [(9000, .box [.t (.sl (o1.map Form.row))])])
theorem zeZ (fuel : Nat) : ze0 fuel := by
 intro x1 o1 r F0
 unfold zbd at F0
 refine AC_i [.t (.sc (.int .i64 r))] Tryz.func163 rfl Tryz.ntmps163 ?_
 intro C hC
 refine zb (za ?_)
 refine s_as ?_
 refine zf (zd (zb (zb (za ?_))))
 refine s_mv ?_
 refine zE yU53 ?_
 refine s_mv ?_
 refine zf (zd (zl ?_))
 refine zap (β := Int) [4, 5, 8, 9, 10, 11, 12, 13, 14, 15, 16, 17, 18] [] [] (fun a => [(8, .t (.sc (.int .i64 a.2)))]) (fun a => []) (fun a => a.1 ≤ fuel ∧ zR a.1 x1 o1 a.2 = some r ∧ 0 ≤ a.2) (fuel, 0) ⟨Nat.le_refl _, F0, by simp⟩ ?_
 clear F0
 rintro ⟨fu, g1⟩ ⟨hl2, F1, hn_g1⟩
 dsimp only at hl2 F1 hn_g1 ⊢
 obtain _ | fu := fu
 · rw [zR] at F1; cases F1
 rw [zR] at F1
 refine zb (za ?_)
 refine s_lt ?_
 refine zf (zd (zb ?_))
 refine zn F1 ?_ ?_ <;> intro C3 F2
 refine zG 0 (fun B4 => ?_)
 refine zi (zd (zb (zl (zb (za ?_)))))
 refine s_mv ?_
 refine s_as ?_
 refine zf (zd (zb (za ?_)))
 iterate 3 refine s_mv ?_
 obtain ⟨v5, V5, F3⟩ := zc F2
 refine zL Rule.row V5 (Rule.row_eq _) yE53 ?_
 refine zag yA96 yS96 ?_
 obtain ⟨v6, V6, F4⟩ := zc F3
 refine zQ [(9000, 9000)] [] _ _ (m_impl_rulesOk_1_ok fu _ _ _ V6) ?_
 refine zf (zd ?_)
 refine zn F4 ?_ ?_ <;> intro C7 F5
 refine zb (za ?_)
 refine s_mv ?_
 refine s_as ?_
 refine zf (zd (zh (zj (zg (zu (zj (zg (zm ?_))))))))
 cases F5
 exact zk _ [] Tryz.results163
 refine zi (z6 (zd (za ?_)))
 refine zI (zak C3 B4 hn_g1) ?_
 refine s_mv ?_
 refine zf ?_
 exact s_rn (fu, (g1 + 1)) ⟨by first | omega | (dsimp only; omega), F5, by first | omega | (dsimp only; omega)⟩
 refine zB (zw (zr (zx (zd (zb (za ?_))))))
 refine s_as ?_
 refine zf (zd (zh (zm ?_)))
 cases F2
 exact zk _ [] Tryz.results163
def zeA (fuel : Nat) : Prop := ∀ (x1 : (List Rule)) (o1 : (List Form)) (r : Bool), zaN fuel x1 o1 = some r → AC Tryz.prog 142 [.t (.sl (x1.map Rule.row)), .fn 143 [.rf 9000 0]] (objs [(9000, .box [.t (.sl (o1.map Form.row))])]) (.t (.sc (.bool r))) (objs [(9000, .box [.t (.sl (o1.map Form.row))])])
theorem zez (fuel : Nat) : zeA fuel := by
 intro x1 o1 r F0
 unfold zaN at F0
 refine AC_i [.t (.sc (.bool r))] Tryz.func142 rfl Tryz.ntmps142 ?_
 intro C hC
 refine zb (za ?_)
 refine s_as ?_
 refine zf (zd (zb (za ?_)))
 refine s_mv ?_
 refine s_mv ?_
 obtain ⟨v1, V1, F1⟩ := zc F0
 refine zQ [(9000, 9000)] [] _ _ (zeZ fuel _ _ _ V1) ?_
 refine s_ge ?_
 refine s_as ?_
 refine zf (zd (zh (zm ?_)))
 cases F1
 exact zk _ [] Tryz.results142
def m_impl_rulesOk_AC (fuel : Nat) : Prop := ∀ (x1 : (List Rule)) (x2 : (List Form)) (r : Bool), ze8 fuel x1 x2 = some r → AC Tryz.prog 116 [.t (.sl (x1.map Rule.row)), .t (.sl (x2.map Form.row))] noOb (.t (.sc (.bool r))) noOb
theorem m_impl_rulesOk_ok (fuel : Nat) : m_impl_rulesOk_AC fuel := by
 intro x1 x2 r F0
 unfold ze8 at F0
 refine AC_i [.t (.sc (.bool r))] Tryz.func116 rfl Tryz.ntmps116 ?_
 intro C hC
 refine zb (za ?_)
 refine zaF ?_
 refine s_as ?_
 refine zf (zd (zb (za ?_)))
 refine s_mv ?_
 refine zE yU53 ?_
 refine s_le ?_
 refine s_mv ?_
 refine zy _ 8 F0 ?_ ?_ <;> intro C1 F1
 refine zp yA35 ?_
 obtain ⟨v2, V2, F2⟩ := zc F1
 refine zz [] (zgl fuel _ _ V2) ?_
 refine zC ?_
 refine s_mv ?_
 refine zy _ 12 F2 ?_ ?_ <;> intro C3 F3
 refine s_mv ?_
 refine s_fn ?_
 obtain ⟨v4, V4, F4⟩ := zc F3
 refine zQ [(9000, 3)] [] _ _ (zez fuel _ _ _ V4) ?_
 refine zbC ?_
 refine zC ?_
 refine s_as ?_
 refine zf (zd (zh (zm ?_)))
 cases F4
 exact zk [] [] Tryz.results116
 iterate 4 refine r_no rfl ?_
 refine zF ?_
 refine s_as ?_
 refine zf (zd (zh (zm ?_)))
 cases F3
 exact zk [] [] Tryz.results116
 refine r_no rfl (r_no rfl ?_)
 refine zF ?_
 refine s_mv ?_
 iterate 4 refine r_no rfl ?_
 refine zF ?_
 refine s_as ?_
 refine zf (zd (zh (zm ?_)))
 cases F1
 exact zk [] [] Tryz.results116
def zhj (fuel : Nat) : Prop := ∀ (x1 : zv) (r : Bool), zcv fuel x1 = some r → AC Tryz.prog 65 [.ag [.t (.sl (x1.binds.map Bind.row)), .t (.sl (x1.macros.map zq.row)), .t (.sc (.int .i64 x1.scope)), .t (.sc (.int .i64 x1.id)), .t (.sc (.int .i64 x1.steps))]] noOb (.t (.sc (.bool r))) noOb
theorem zfu (fuel : Nat) : zhj fuel := by
 intro x1 r F0
 unfold zcv at F0
 refine AC_i [.t (.sc (.bool r))] Tryz.func65 rfl Tryz.ntmps65 ?_
 intro C hC
 refine zb (za ?_)
 refine zaF ?_
 refine s_as ?_
 refine zf (zd (zb ?_))
 refine zgd (α := Nat × Bool) [5, 6, 7, 8, 9, 10, 11, 12, 13, 14, 15, 16, 17, 18, 19, 20, 21, 22, 23, 24, 25, 26, 27, 28, 29, 30, 31, 32] [] [] (fun a => [(32, .t (.sc (.bool a.2)))]) (fun a => []) (fun a => a.1 ≤ fuel ∧ zY a.1 x1 a.2 = some r) ?_ ?_
 refine za ?_
 refine s_fa yF60_0 ?_
 refine zp yA33 ?_
 obtain ⟨v1, V1, F1⟩ := zc F0
 refine zz [] (m_impl_BindsValid_ok fuel _ _ V1) ?_
 refine zbC ?_
 refine s_mv ?_
 refine zy _ 9 F1 ?_ ?_ <;> intro C2 F2
 iterate 4 refine r_no rfl ?_
 refine zC ?_
 refine s_mv ?_
 iterate 4 refine r_no rfl ?_
 refine zC ?_
 refine s_mv ?_
 iterate 4 refine r_no rfl ?_
 refine zC ?_
 refine s_mv ?_
 iterate 4 refine r_no rfl ?_
 refine zC ?_
 refine zf ?_
 exact s_jn (fuel, true) ⟨by first | omega | (dsimp only; omega), F2⟩
 refine s_fa yF60_2 ?_
 refine zp yA3 ?_
 obtain ⟨v3, V3, F3⟩ := zc F2
 refine zz [] (zbU fuel _ _ _ _ V3) ?_
 refine zbC ?_
 refine zF ?_
 refine s_mv ?_
 refine zy _ 15 F3 ?_ ?_ <;> intro C4 F4
 iterate 4 refine r_no rfl ?_
 refine zC ?_
 refine s_mv ?_
 iterate 4 refine r_no rfl ?_
 refine zC ?_
 refine s_mv ?_
 iterate 4 refine r_no rfl ?_
 refine zC ?_
 refine zf ?_
 exact s_jn (fuel, true) ⟨by first | omega | (dsimp only; omega), F4⟩
 refine s_fa yF60_3 ?_
 refine zp yA3 ?_
 obtain ⟨v5, V5, F5⟩ := zc F4
 refine zz [] (zbU fuel _ _ _ _ V5) ?_
 refine zbC ?_
 refine zF ?_
 refine s_mv ?_
 refine zy _ 21 F5 ?_ ?_ <;> intro C6 F6
 iterate 4 refine r_no rfl ?_
 refine zC ?_
 refine s_mv ?_
 iterate 4 refine r_no rfl ?_
 refine zC ?_
 refine zf ?_
 exact s_jn (fuel, true) ⟨by first | omega | (dsimp only; omega), F6⟩
 refine s_fa yF60_4 ?_
 refine zp yA3 ?_
 obtain ⟨v7, V7, F7⟩ := zc F6
 refine zz [] (zbU fuel _ _ _ _ V7) ?_
 refine zbC ?_
 refine zF ?_
 refine s_mv ?_
 refine zy _ 27 F7 ?_ ?_ <;> intro C8 F8
 iterate 4 refine r_no rfl ?_
 refine zC ?_
 refine zf ?_
 exact s_jn (fuel, true) ⟨by first | omega | (dsimp only; omega), F8⟩
 refine s_fa zd4 ?_
 refine zp yA58 ?_
 refine zE yU58 ?_
 refine s_gt ?_
 refine zF ?_
 refine zf ?_
 exact s_jn (fuel, (decide (60 < (x1.macros.length : Int)))) ⟨by first | omega | (dsimp only; omega), F8⟩
 clear F0
 rintro ⟨fu, g9⟩ ⟨hl10, F1⟩
 dsimp only at hl10 F1 ⊢
 obtain _ | fu := fu
 · rw [zY] at F1; cases F1
 rw [zY] at F1
 refine zn F1 ?_ ?_ <;> intro C11 F2
 refine zb (za ?_)
 refine s_as ?_
 refine zf (zd (zh (zg (zm ?_))))
 cases F2
 exact zk [] [] Tryz.results65
 refine zi (zd (zb (zb (za ?_))))
 refine s_fa yF60_0 ?_
 refine zp yA33 ?_
 refine s_fn ?_
 obtain ⟨v12, V12, F3⟩ := zc F2
 refine zQ [(9000, 1)] [] _ _ (zdA fu _ _ _ V12) ?_
 refine zf (zd ?_)
 refine zn F3 ?_ ?_ <;> intro C13 F4
 refine zb (za ?_)
 refine s_as ?_
 refine zf (zd (zh (zg (zm ?_))))
 cases F4
 exact zk [] [] Tryz.results65
 refine zi (zd (zb (zb (za ?_))))
 refine s_fa zd4 ?_
 refine zp yA58 ?_
 refine zE yU58 ?_
 refine s_mv ?_
 refine zf (zd (zl ?_))
 refine zap (β := Int) [2, 3, 4, 40, 41, 42, 43, 44, 45, 46, 47, 48, 49, 50, 51, 52, 53, 54, 55, 56, 57, 58, 59, 60, 61, 62, 63, 64, 65, 66, 67, 68, 69] [] [4] (fun a => [(40, .t (.sc (.int .i64 a.2)))]) (fun a => []) (fun a => a.1 ≤ fu ∧ zam a.1 x1 a.2 = some r ∧ 0 ≤ a.2) (fu, 0) ⟨Nat.le_refl _, F4, by simp⟩ ?_
 clear F4
 rintro ⟨fu, g14⟩ ⟨hl15, F5, hn_g14⟩
 dsimp only at hl15 F5 hn_g14 ⊢
 obtain _ | fu := fu
 · rw [zam] at F5; cases F5
 rw [zam] at F5
 refine zb (za ?_)
 refine s_lt ?_
 refine zf (zd (zb ?_))
 refine zn F5 ?_ ?_ <;> intro C16 F6
 refine zG 38 (fun B17 => ?_)
 refine zi (zd (zb (zl (zb (za ?_)))))
 refine s_mv ?_
 obtain ⟨v18, V18, F7⟩ := zc F6
 refine zL zq.row V18 (zq.row_eq _) yE58 ?_
 refine zag yA55 yS55 ?_
 refine zU yZ55 ?_
 refine s_as ?_
 refine zb4 yS55 ?_
 refine zf (zd (zb ?_))
 refine zaf yMix (by kernel_rfl) ?_
 refine s_fa zfx ?_
 refine zp yA53 ?_
 refine s_fa zfy ?_
 refine zp yA35 ?_
 obtain ⟨v19, V19, F8⟩ := zc F7
 refine zz [] (m_impl_rulesOk_ok fu _ _ _ V19) ?_
 refine zbC ?_
 refine s_mv ?_
 refine zy _ 51 F8 ?_ ?_ <;> intro C20 F9
 iterate 6 refine r_no rfl ?_
 refine zC ?_
 refine s_mv ?_
 iterate 8 refine r_no rfl ?_
 refine zC ?_
 refine zao (by kernel_rfl) ?_
 refine zd (zM rfl (zb (za ?_)))
 refine s_as ?_
 refine zf (zd (zh (zj (zg (zu (zj (zg (zm ?_))))))))
 cases F9
 exact zk [] [] Tryz.results65
 refine s_fa zgJ ?_
 refine zp yA3 ?_
 refine s_fa yF60_3 ?_
 refine zp yA3 ?_
 obtain ⟨v21, V21, F10⟩ := zc F9
 refine zz [] (zbU fu _ _ _ _ V21) ?_
 refine zbC ?_
 refine zF ?_
 refine s_mv ?_
 refine zy _ 59 F10 ?_ ?_ <;> intro C22 F11
 iterate 8 refine r_no rfl ?_
 refine zC ?_
 refine zao (by kernel_rfl) ?_
 refine zd (zM rfl (zb (za ?_)))
 refine s_as ?_
 refine zf (zd (zh (zj (zg (zu (zj (zg (zm ?_))))))))
 cases F11
 exact zk [] [] Tryz.results65
 refine s_fa zd4 ?_
 refine zp yA58 ?_
 refine s_mv ?_
 obtain ⟨v23, V23, F12⟩ := zc F11
 refine s_sl01 zq.row (fun y => zq.row_len y) V23 yU58 yE58 ?_
 refine s_fa zgJ ?_
 refine zp yA3 ?_
 obtain ⟨v24, V24, F13⟩ := zc F12
 refine zz [] (zfU fu _ _ _ V24) ?_
 refine s_ge ?_
 refine zF ?_
 refine zao (by kernel_rfl) ?_
 refine zd ?_
 refine zn F13 ?_ ?_ <;> intro C25 F14
 refine zb (za ?_)
 refine s_as ?_
 refine zf (zd (zh (zj (zg (zu (zj (zg (zm ?_))))))))
 cases F14
 exact zk [] [] Tryz.results65
 refine zi (z6 (zd (za ?_)))
 refine zI (zak C16 B17 hn_g14) ?_
 refine s_mv ?_
 refine zf ?_
 exact s_rn (fu, (g14 + 1)) ⟨by first | omega | (dsimp only; omega), F14, by first | omega | (dsimp only; omega)⟩
 refine zB (zw (zr (zx (zd (zb (za ?_))))))
 refine s_as ?_
 refine zf (zd (zh (zm ?_)))
 cases F6
 exact zk [] [] Tryz.results65
def zhy (fuel : Nat) : Prop := ∀ (x1 : (List Int)) (r : (List Int)), zb6 fuel x1 = some r → AC Tryz.prog 137 [.t (.sl (x1.map rI))] (objs []) (.ar 9200) (objs [(9200, .arr (r.map rI) 3 true)])
theorem zhx (fuel : Nat) : zhy fuel := by
 intro x1 r F0
 unfold zb6 at F0
 refine AC_i [.ar 9200] Tryz.func137 rfl Tryz.ntmps137 ?_
 intro C hC
 refine awp_nil 0 (fun hz => ?_) ?_
 replace hz := List.map_eq_nil_iff.mp hz; subst hz; obtain ⟨_, F1⟩ := zaS F0
 refine zb (za ?_)
 refine s_as ?_
 refine zf (zd (zb (zb (za ?_))))
 refine s_mv ?_
 refine s_nil yU23 ?_
 refine zf (zd (zM rfl ?_))
 refine zgc 0 ?_
 refine zgc 3 ?_
 refine zb (za ?_)
 refine s_as ?_
 refine zf (zd ?_)
 refine awp_own 2 9200 3 yI3.choose_spec ?_
 refine zh (zg (zm ?_))
 cases F1
 exact zk _ [] Tryz.results137
 refine zb (za ?_)
 refine s_as ?_
 refine zf (zd (zb (zb (za ?_))))
 refine s_mv ?_
 refine s_nil yU23 ?_
 refine zf (zd (zci rfl ?_))
 refine zgc 0 ?_
 refine zgc 3 ?_
 refine zi (zd (zb (za ?_)))
 refine s_bs rI ([] : List Int) yP23 yR3 ?_
 refine s_mv ?_
 obtain ⟨hk1, F1⟩ := zaS F0
 refine s_apT rI (fun _ => rfl) hk1 yP23 ?_
 refine s_as ?_
 refine zf (zd ?_)
 refine zhl 2 7 9200 (by conv => lhs; whnf) (by conv => lhs; whnf) rfl ?_
 refine zh (zm ?_)
 cases F1
 exact zk _ [] Tryz.results137
def zdE (fuel : Nat) : Prop := ∀ (x1 : Form) (r : Form), zai fuel x1 = some r → AC Tryz.prog 105 [.ag [.t (.sc (.int .i64 x1.kind)), .t (.sc (.str x1.name)), .t (.sc (.int .i64 x1.n)), .t (.sl (x1.scopes.map rI)), .t (.sl (x1.kids.map Form.row))]] (objs []) (.ag [.t (.sc (.int .i64 r.kind)), .t (.sc (.str r.name)), .t (.sc (.int .i64 r.n)), .ar 9203, .ar 9204]) (objs [(9203, .arr (r.scopes.map rI) 3 true), (9204, .dar (r.kids.map (Form.rowD 3 37)) 37)])
theorem m_impl_copyForm_D_st (fu : Nat) (ih_m_impl_copyForm_D : ∀ k, k ≤ fu → zdE k) : zdE (fu + 1) := by
 intro x1 r F0
 rw [zai] at F0
 refine AC_i [.ag [.t (.sc (.int .i64 r.kind)), .t (.sc (.str r.name)), .t (.sc (.int .i64 r.n)), .ar 9203, .ar 9204]] Tryz.func105 rfl Tryz.ntmps105 ?_
 intro C hC
 refine zb (za ?_)
 refine zaF ?_
 refine zU yZ37 ?_
 refine zf (zd (zb ?_))
 refine zaf yMix (by kernel_rfl) ?_
 refine s_fa zc8 ?_
 refine zp yA3 ?_
 refine s_fa zcH ?_
 refine zp yA9 ?_
 refine s_fa zep ?_
 refine zp yA3 ?_
 refine s_fa zeu ?_
 refine zp yA23 ?_
 obtain ⟨v1, V1, F1⟩ := zc F0
 refine zQ [(9200, 2014)] [] _ _ (zhx fu _ _ V1) ?_
 refine s_bld yZ37 yL37 ?_
 refine zU yZ37 ?_
 refine zb4 yS37 ?_
 refine zao (by kernel_rfl) ?_
 refine zd (zb (zb (za ?_)))
 refine s_fa zZ ?_
 refine zp yA35 ?_
 refine zE yU35 ?_
 refine s_mv ?_
 refine zf (zd (zl ?_))
 refine zfN 3 5020 37 [.t (.sc (.int .i64 x1.kind)), .t (.sc (.str x1.name)), .t (.sc (.int .i64 x1.n)), .ar 2014, .ar 5020] yI37.choose_spec ?_
 refine awp_toD 5020 (Form.rowD 3 37) (es := ([] : List Form).map Form.row) (by (conv => lhs; whnf) <;> rfl) rfl ?_
 refine zbP [5, 19, 20, 21, 22, 23, 24, 25, 26, 27, 28, 29, 30] [3, 5020] [5, 27, 28, 2026, 12026] [5020] (fun a : Nat × Int × (List Form) => a.1) (fun a : Nat × Int × (List Form) => [(19, .t (.sc (.int .i64 a.2.1)))]) (fun a : Nat × Int × (List Form) => [(3, .box [.t (.sc (.int .i64 x1.kind)), .t (.sc (.str x1.name)), .t (.sc (.int .i64 x1.n)), .ar 2014, .ar 5020]), (5020, .dar (a.2.2.map (Form.rowD 3 37)) 37)]) (fun a : Nat × Int × (List Form) => a.1 ≤ fu ∧ zaR a.1 x1 v1 a.2.1 a.2.2 = some r ∧ 0 ≤ a.2.1) (fu, 0, ([] : List Form)) ⟨Nat.le_refl _, F1, by simp⟩ (by rfl) (by rfl) (fun _ => rfl) (zbj (by conv => lhs; whnf) (by rfl) zc5) (zaj (by conv => lhs; whnf) (by rfl) (zaj (by conv => lhs; whnf) (by rfl) zcz)) (zeG hC rfl) (by repeat (first | exact zby rfl | refine zb2 rfl ?_ | refine zaT rfl ?_)) (by repeat (first | exact zcw | exact zbD rfl | refine zb3 rfl ?_ | refine zaU rfl ?_)) ?_
 clear F1
 rintro ⟨fu, g2, g3⟩ ⟨hl4, F2, hn_g2⟩
 dsimp only at hl4 F2 hn_g2 ⊢
 obtain _ | fu := fu
 · rw [zaR] at F2; cases F2
 rw [zaR] at F2
 refine zb (za ?_)
 refine s_lt ?_
 refine zf (zd (zb ?_))
 refine zn F2 ?_ ?_ <;> intro C5 F3
 refine zG 17 (fun B6 => ?_)
 refine zi (zd (zb (zl (zb (za ?_)))))
 obtain ⟨v7, V7, F4⟩ := zc F3
 refine zL Form.row V7 (Form.row_eq _) yE35 ?_
 refine zag yA37 yS37 ?_
 refine zU yZ37 ?_
 refine zb4 yS37 ?_
 refine zf (zd ?_)
 refine zaf yMix (by kernel_rfl) ?_
 refine s_fa zZ ?_
 refine zp yA35 ?_
 refine zad yA37 yS37 ?_
 obtain ⟨v8, V8, F5⟩ := zc F4
 refine zQ [(9203, 2026), (9204, 12026)] [] _ _ (ih_m_impl_copyForm_D fu (by omega) _ _ V8) ?_
 refine s_bsD [.sc (.int .i64 v8.kind), .sc (.str v8.name), .sc (.int .i64 v8.n), .any, .any] [(0, 3, 2026), (0, 4, 12026)] yP35 ?_
 obtain ⟨hk9, F6⟩ := zaS F5
 refine s_apH (Form.rowD 3 37) [(g3.length, 3, 2026), (g3.length, 4, 12026)] hk9 yP35 ?_
 refine s_fa zZ ?_
 refine zcY yS35 ?_
 refine zao (by kernel_rfl) ?_
 refine z6 (zd ?_)
 refine awp_jaA 28 2026 [.sc (.int .i64 v8.kind), .sc (.str v8.name), .sc (.int .i64 v8.n), .ow 3 (v8.scopes.map rI), .any] ?_
 refine awp_jaD 28 12026 [.sc (.int .i64 v8.kind), .sc (.str v8.name), .sc (.int .i64 v8.n), .ow 3 (v8.scopes.map rI), .ow 37 (v8.kids.map (Form.rowD 3 37))] ?_
 refine awp_naH 28 (row := (Form.rowD 3 37)) (fs := [.sc (.int .i64 v8.kind), .sc (.str v8.name), .sc (.int .i64 v8.n), .ow 3 (v8.scopes.map rI), .ow 37 (v8.kids.map (Form.rowD 3 37))]) v8 (Form.rowDE _ _ _) ?_
 refine za ?_
 refine zI (zak C5 B6 hn_g2) ?_
 refine s_mv ?_
 refine zf ?_
 exact s_rn (fu, (g2 + 1), (g3 ++ [v8])) ⟨by first | omega | (dsimp only; omega), F6, by first | omega | (dsimp only; omega)⟩ [(5020, 28)]
 refine zB (zw (zr (zx (zd (zb (za ?_))))))
 refine zad yA37 yS37 ?_
 refine zb4 yS37 ?_
 refine zf (zd ?_)
 refine zfq 2 2014 9203 [.t (.sc (.int .i64 x1.kind)), .t (.sc (.str x1.name)), .t (.sc (.int .i64 x1.n)), .ar 9203, .ar 5020] ?_
 refine zfh 2 5020 9204 [.t (.sc (.int .i64 x1.kind)), .t (.sc (.str x1.name)), .t (.sc (.int .i64 x1.n)), .ar 9203, .ar 9204] ?_
 refine zh (zm ?_)
 cases F3
 exact zch _ [] (by rw [Tryz.results105]; exact (zdt (by conv => lhs; whnf) (by conv => lhs; whnf) yA37 yS37 rfl zcj))
theorem m_impl_copyForm_D_all (fuel : Nat) : zdE fuel := by
 induction fuel using Nat.strongRecOn with
 | _ N ih =>
   cases N with
   | zero => exact (by intro x1 r h; rw [zai] at h; cases h)
   | succ fu => exact m_impl_copyForm_D_st fu (fun k hk => (ih k (by omega)))
theorem zeW (fuel : Nat) : zdE fuel := (m_impl_copyForm_D_all fuel)
def m_impl_copyMacro_D_AC (fuel : Nat) : Prop := ∀ (x1 : zq) (r : zq), zcF fuel x1 = some r → AC Tryz.prog 66 [.ag [.t (.sc (.int .i64 x1.id)), .t (.sl (x1.literals.map Form.row)), .t (.sl (x1.rules.map Rule.row))]] (objs []) (.ag [.t (.sc (.int .i64 r.id)), .ar 9201, .ar 9202]) (objs [(9201, .dar (r.literals.map (Form.rowD 3 37)) 37), (9202, .dar (r.rules.map (Rule.rowD 3 37)) 96)])
theorem m_impl_copyMacro_D_ok (fuel : Nat) : m_impl_copyMacro_D_AC fuel := by
 intro x1 r F0
 unfold zcF at F0
 refine AC_i [.ag [.t (.sc (.int .i64 r.id)), .ar 9201, .ar 9202]] Tryz.func66 rfl Tryz.ntmps66 ?_
 intro C hC
 refine zb (za ?_)
 refine zaF ?_
 refine zU yZ55 ?_
 refine zf (zd (zb (za ?_)))
 refine s_fa zgJ ?_
 refine zp yA3 ?_
 refine s_bld yZ55 yL55 ?_
 refine zU yZ55 ?_
 refine zb4 yS55 ?_
 refine zf (zd ?_)
 refine zgd (α := Nat × (List Form)) [5, 11, 12, 13, 14, 15, 16, 17, 18, 19, 20, 21, 22, 23, 24, 25] [3, 5040] [] (fun a => []) (fun a => [(3, .box [.t (.sc (.int .i64 x1.id)), .ar 5040, .nl]), (5040, .dar (a.2.map (Form.rowD 3 37)) 37)]) (fun a => a.1 ≤ fuel ∧ zbw a.1 x1 a.2 = some r) ?_ ?_
 refine zb (za ?_)
 refine s_fa zfy ?_
 refine zp yA35 ?_
 refine zE yU35 ?_
 refine s_mv ?_
 refine zf (zd (zl ?_))
 refine zfN 3 5040 37 [.t (.sc (.int .i64 x1.id)), .ar 5040, .nl] yI37.choose_spec ?_
 refine awp_toD 5040 (Form.rowD 3 37) (es := ([] : List Form).map Form.row) (by (conv => lhs; whnf) <;> rfl) rfl ?_
 refine zbP [5, 14, 15, 16, 17, 18, 19, 20, 21, 22, 23, 24, 25] [3, 5040] [5, 22, 23, 2021, 12021] [5040] (fun a : Nat × Int × (List Form) => a.1) (fun a : Nat × Int × (List Form) => [(14, .t (.sc (.int .i64 a.2.1)))]) (fun a : Nat × Int × (List Form) => [(3, .box [.t (.sc (.int .i64 x1.id)), .ar 5040, .nl]), (5040, .dar (a.2.2.map (Form.rowD 3 37)) 37)]) (fun a : Nat × Int × (List Form) => a.1 ≤ fuel ∧ zat a.1 x1 a.2.1 a.2.2 = some r ∧ 0 ≤ a.2.1) (fuel, 0, ([] : List Form)) ⟨Nat.le_refl _, F0, by simp⟩ (by rfl) (by rfl) (fun _ => rfl) (zbj (by conv => lhs; whnf) (by rfl) zc5) (zaj (by conv => lhs; whnf) (by rfl) (zaj (by conv => lhs; whnf) (by rfl) zcz)) (zeG hC rfl) (by repeat (first | exact zby rfl | refine zb2 rfl ?_ | refine zaT rfl ?_)) (by repeat (first | exact zcw | exact zbD rfl | refine zb3 rfl ?_ | refine zaU rfl ?_)) ?_
 clear F0
 rintro ⟨fu, g1, g2⟩ ⟨hl3, F1, hn_g1⟩
 dsimp only at hl3 F1 hn_g1 ⊢
 obtain _ | fu := fu
 · rw [zat] at F1; cases F1
 rw [zat] at F1
 refine zb (za ?_)
 refine s_lt ?_
 refine zf (zd (zb ?_))
 refine zn F1 ?_ ?_ <;> intro C4 F2
 refine zG 12 (fun B5 => ?_)
 refine zi (zd (zb (zl (zb (za ?_)))))
 obtain ⟨v6, V6, F3⟩ := zc F2
 refine zL Form.row V6 (Form.row_eq _) yE35 ?_
 refine zag yA37 yS37 ?_
 refine zU yZ37 ?_
 refine zb4 yS37 ?_
 refine zf (zd ?_)
 refine zaf yMix (by kernel_rfl) ?_
 refine s_fa zfy ?_
 refine zp yA35 ?_
 refine zad yA37 yS37 ?_
 obtain ⟨v7, V7, F4⟩ := zc F3
 refine zQ [(9203, 2021), (9204, 12021)] [] _ _ (zeW fu _ _ V7) ?_
 refine s_bsD [.sc (.int .i64 v7.kind), .sc (.str v7.name), .sc (.int .i64 v7.n), .any, .any] [(0, 3, 2021), (0, 4, 12021)] yP35 ?_
 obtain ⟨hk8, F5⟩ := zaS F4
 refine s_apH (Form.rowD 3 37) [(g2.length, 3, 2021), (g2.length, 4, 12021)] hk8 yP35 ?_
 refine s_fa zfy ?_
 refine zcY yS35 ?_
 refine zao (by kernel_rfl) ?_
 refine z6 (zd ?_)
 refine awp_jaA 23 2021 [.sc (.int .i64 v7.kind), .sc (.str v7.name), .sc (.int .i64 v7.n), .ow 3 (v7.scopes.map rI), .any] ?_
 refine awp_jaD 23 12021 [.sc (.int .i64 v7.kind), .sc (.str v7.name), .sc (.int .i64 v7.n), .ow 3 (v7.scopes.map rI), .ow 37 (v7.kids.map (Form.rowD 3 37))] ?_
 refine awp_naH 23 (row := (Form.rowD 3 37)) (fs := [.sc (.int .i64 v7.kind), .sc (.str v7.name), .sc (.int .i64 v7.n), .ow 3 (v7.scopes.map rI), .ow 37 (v7.kids.map (Form.rowD 3 37))]) v7 (Form.rowDE _ _ _) ?_
 refine za ?_
 refine zI (zak C4 B5 hn_g1) ?_
 refine s_mv ?_
 refine zf ?_
 exact s_rn (fu, (g1 + 1), (g2 ++ [v7])) ⟨by first | omega | (dsimp only; omega), F5, by first | omega | (dsimp only; omega)⟩ [(5040, 23)]
 refine zB (zw (zr (zx ?_)))
 exact s_jn (fu, g2) ⟨by first | omega | (dsimp only; omega), F2⟩
 clear F0
 rintro ⟨fu, g9⟩ ⟨hl10, F1⟩
 dsimp only at hl10 F1 ⊢
 obtain _ | fu := fu
 · rw [zbw] at F1; cases F1
 rw [zbw] at F1
 refine zb (zb (za ?_))
 refine s_fa zfx ?_
 refine zp yA53 ?_
 refine zE yU53 ?_
 refine s_mv ?_
 refine zf (zd (zl ?_))
 refine zfN 3 5060 96 [.t (.sc (.int .i64 x1.id)), .ar 5040, .ar 5060] yI96.choose_spec ?_
 refine awp_toD 5060 (Rule.rowD 3 37) (es := ([] : List Rule).map Rule.row) (by (conv => lhs; whnf) <;> rfl) rfl ?_
 refine zbP [7, 29, 30, 31, 32, 33, 34, 35, 36, 37, 38, 39, 40, 41, 42, 43, 44, 45] [3, 5060] [7, 42, 43, 2037, 2040, 12037, 12040] [5060] (fun a : Nat × Int × (List Rule) => a.1) (fun a : Nat × Int × (List Rule) => [(29, .t (.sc (.int .i64 a.2.1)))]) (fun a : Nat × Int × (List Rule) => [(3, .box [.t (.sc (.int .i64 x1.id)), .ar 5040, .ar 5060]), (5060, .dar (a.2.2.map (Rule.rowD 3 37)) 96)]) (fun a : Nat × Int × (List Rule) => a.1 ≤ fu ∧ zan a.1 x1 g9 a.2.1 a.2.2 = some r ∧ 0 ≤ a.2.1) (fu, 0, ([] : List Rule)) ⟨Nat.le_refl _, F1, by simp⟩ (by rfl) (by rfl) (fun _ => rfl) (zbj (by conv => lhs; whnf) (by rfl) zc5) (zaj (by conv => lhs; whnf) (by rfl) (zaj (by conv => lhs; whnf) (by rfl) zcz)) (zeG hC rfl) (by repeat (first | exact zby rfl | refine zb2 rfl ?_ | refine zaT rfl ?_)) (by repeat (first | exact zcw | exact zbD rfl | refine zb3 rfl ?_ | refine zaU rfl ?_)) ?_
 clear F1
 rintro ⟨fu, g11, g12⟩ ⟨hl13, F2, hn_g11⟩
 dsimp only at hl13 F2 hn_g11 ⊢
 obtain _ | fu := fu
 · rw [zan] at F2; cases F2
 rw [zan] at F2
 refine zb (za ?_)
 refine s_lt ?_
 refine zf (zd (zb ?_))
 refine zn F2 ?_ ?_ <;> intro C14 F3
 refine zG 27 (fun B15 => ?_)
 refine zi (zd (zb (zl (zb (za ?_)))))
 obtain ⟨v16, V16, F4⟩ := zc F3
 refine zL Rule.row V16 (Rule.row_eq _) yE53 ?_
 refine zag yA96 yS96 ?_
 refine zU yZ96 ?_
 refine zb4 yS96 ?_
 refine zf (zd ?_)
 refine zaf yMix (by kernel_rfl) ?_
 refine s_fa zfx ?_
 refine zp yA53 ?_
 refine s_fa zd3 ?_
 refine zag yA37 yS37 ?_
 obtain ⟨v17, V17, F5⟩ := zc F4
 refine zQ [(9203, 2037), (9204, 12037)] [] _ _ (zeW fu _ _ V17) ?_
 refine s_fa zfr ?_
 refine zag yA37 yS37 ?_
 obtain ⟨v18, V18, F6⟩ := zc F5
 refine zQ [(9203, 2040), (9204, 12040)] [] _ _ (zeW fu _ _ V18) ?_
 refine s_bld yZ96 yL96 ?_
 refine s_bsD [.sc (.int .i64 v17.kind), .sc (.str v17.name), .sc (.int .i64 v17.n), .any, .any, .sc (.int .i64 v18.kind), .sc (.str v18.name), .sc (.int .i64 v18.n), .any, .any] [(0, 3, 2037), (0, 4, 12037), (0, 8, 2040), (0, 9, 12040)] yP53 ?_
 obtain ⟨hk19, F7⟩ := zaS F6
 refine s_apH (Rule.rowD 3 37) [(g12.length, 3, 2037), (g12.length, 4, 12037), (g12.length, 8, 2040), (g12.length, 9, 12040)] hk19 yP53 ?_
 refine s_fa zfx ?_
 refine zcY yS53 ?_
 refine zao (by kernel_rfl) ?_
 refine z6 (zd ?_)
 refine awp_jaA 43 2037 [.sc (.int .i64 v17.kind), .sc (.str v17.name), .sc (.int .i64 v17.n), .ow 3 (v17.scopes.map rI), .any, .sc (.int .i64 v18.kind), .sc (.str v18.name), .sc (.int .i64 v18.n), .any, .any] ?_
 refine awp_jaD 43 12037 [.sc (.int .i64 v17.kind), .sc (.str v17.name), .sc (.int .i64 v17.n), .ow 3 (v17.scopes.map rI), .ow 37 (v17.kids.map (Form.rowD 3 37)), .sc (.int .i64 v18.kind), .sc (.str v18.name), .sc (.int .i64 v18.n), .any, .any] ?_
 refine awp_jaA 43 2040 [.sc (.int .i64 v17.kind), .sc (.str v17.name), .sc (.int .i64 v17.n), .ow 3 (v17.scopes.map rI), .ow 37 (v17.kids.map (Form.rowD 3 37)), .sc (.int .i64 v18.kind), .sc (.str v18.name), .sc (.int .i64 v18.n), .ow 3 (v18.scopes.map rI), .any] ?_
 refine awp_jaD 43 12040 [.sc (.int .i64 v17.kind), .sc (.str v17.name), .sc (.int .i64 v17.n), .ow 3 (v17.scopes.map rI), .ow 37 (v17.kids.map (Form.rowD 3 37)), .sc (.int .i64 v18.kind), .sc (.str v18.name), .sc (.int .i64 v18.n), .ow 3 (v18.scopes.map rI), .ow 37 (v18.kids.map (Form.rowD 3 37))] ?_
 refine awp_naH 43 (row := (Rule.rowD 3 37)) (fs := [.sc (.int .i64 v17.kind), .sc (.str v17.name), .sc (.int .i64 v17.n), .ow 3 (v17.scopes.map rI), .ow 37 (v17.kids.map (Form.rowD 3 37)), .sc (.int .i64 v18.kind), .sc (.str v18.name), .sc (.int .i64 v18.n), .ow 3 (v18.scopes.map rI), .ow 37 (v18.kids.map (Form.rowD 3 37))]) (Rule.mk v17 v18) (Rule.rowDE _ _ _) ?_
 refine za ?_
 refine zI (zak C14 B15 hn_g11) ?_
 refine s_mv ?_
 refine zf ?_
 exact s_rn (fu, (g11 + 1), (g12 ++ [(Rule.mk v17 v18)])) ⟨by first | omega | (dsimp only; omega), F7, by first | omega | (dsimp only; omega)⟩ [(5060, 43)]
 refine zB (zw (zr (zx (zd (zb (za ?_))))))
 refine zad yA55 yS55 ?_
 refine zb4 yS55 ?_
 refine zf (zd ?_)
 refine zfh 2 5040 9201 [.t (.sc (.int .i64 x1.id)), .ar 9201, .ar 5060] ?_
 refine zfh 2 5060 9202 [.t (.sc (.int .i64 x1.id)), .ar 9201, .ar 9202] ?_
 refine zh (zm ?_)
 cases F3
 exact zch _ [] (by rw [Tryz.results66]; exact (zdt (by conv => lhs; whnf) (by conv => lhs; whnf) yA55 yS55 rfl zcj))
end Go.Abs
