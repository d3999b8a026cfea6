/- A part of the proof: what the functions that the law calls answer, as pure values. -/
import Derived.Test.YtcebadpiebamdaaGreatKfbd980a3bd19
import Derived.Test.YtcebadpiebamdaaGreatK423f84c32d54
import Derived.Test.YtcebadpiebamdaaGreatKf8de2f3a577a
set_option linter.unusedSimpArgs false
set_option linter.unusedVariables false
set_option maxRecDepth 100000
set_option maxHeartbeats 4000000
namespace Go.Abs
open Go.Proofs
def m_laws_szIntS_AC (fuel : Nat) : Prop := ∀ (x1 : (List Int)) (x2 : Int) (r : Int), zeN fuel x1 x2 = some r → AC Tryz.prog 40 [.t (.sl (x1.map rI)), .t (.sc (.int .i64 x2))] noOb (.t (.sc (.int .i64 r))) noOb
theorem m_laws_szIntS_ok (fuel : Nat) : m_laws_szIntS_AC fuel := by
 intro x1 x2 r F0
 unfold zeN at F0
 refine AC_i [.t (.sc (.int .i64 r))] Tryz.func40 rfl Tryz.ntmps40 ?_
 intro C hC
 refine zb (za ?_)
 refine s_as ?_
 refine zf (zd (zb (za ?_)))
 refine s_mv ?_
 refine s_mv ?_
 refine zE yU23 ?_
 refine s_sub rfl ?_
 refine s_as ?_
 refine zf (zd (zb (zb (za ?_))))
 refine s_mv ?_
 refine s_lt ?_
 refine zf (zd ?_)
 refine zn F0 ?_ ?_ <;> intro C1 F1
 refine zb (za ?_)
 refine s_as ?_
 refine zf (zd (zh (zg (zm ?_))))
 cases F1
 exact zk [] [] Tryz.results40
 refine zi (zd (zb (za ?_)))
 refine s_mv ?_
 refine s_as ?_
 refine zf (zd (zh (zm ?_)))
 cases F1
 exact zk [] [] Tryz.results40
def m_laws_szBind_AC (fuel : Nat) : Prop := ∀ (x1 : Bind) (x2 : Int) (r : Int), zeO fuel x1 x2 = some r → AC Tryz.prog 39 [.ag [.t (.sc (.str x1.name)), .t (.sl (x1.scopes.map rI)), .t (.sc (.int .i64 x1.id))], .t (.sc (.int .i64 x2))] noOb (.t (.sc (.int .i64 r))) noOb
theorem m_laws_szBind_ok (fuel : Nat) : m_laws_szBind_AC fuel := by
 intro x1 x2 r F0
 unfold zeO at F0
 refine AC_i [.t (.sc (.int .i64 r))] Tryz.func39 rfl Tryz.ntmps39 ?_
 intro C hC
 refine zb (za ?_)
 refine zaF ?_
 refine s_as ?_
 refine zf (zd (zb (za ?_)))
 refine s_mv ?_
 refine s_fa yF77_0 ?_
 refine zp yA9 ?_
 refine s_lenS yU9 ?_
 refine s_sub rfl ?_
 refine s_as ?_
 refine zf (zd (zb (zb (za ?_))))
 refine s_mv ?_
 refine s_lt ?_
 refine zf (zd ?_)
 refine zn F0 ?_ ?_ <;> intro C1 F1
 refine zb (za ?_)
 refine s_as ?_
 refine zf (zd (zh (zg (zm ?_))))
 cases F1
 exact zk [] [] Tryz.results39
 refine zi (zd (zb (za ?_)))
 refine s_fa yF77_1 ?_
 refine zp yA23 ?_
 refine s_mv ?_
 obtain ⟨v2, V2, F2⟩ := zc F1
 refine zz [] (m_laws_szIntS_ok fuel _ _ _ V2) ?_
 refine s_as ?_
 refine zf (zd (zb (zb (za ?_))))
 refine s_mv ?_
 refine s_lt ?_
 refine zf (zd ?_)
 refine zn F2 ?_ ?_ <;> intro C3 F3
 refine zb (za ?_)
 refine s_as ?_
 refine zf (zd (zh (zg (zm ?_))))
 cases F3
 exact zk [] [] Tryz.results39
 refine zi (zd (zb (za ?_)))
 refine s_mv ?_
 refine s_as ?_
 refine zf (zd (zh (zm ?_)))
 cases F3
 exact zk [] [] Tryz.results39
def m_laws_szBindS_AC (fuel : Nat) : Prop := ∀ (x1 : (List Bind)) (x2 : Int) (r : Int), ze5 fuel x1 x2 = some r → AC Tryz.prog 6 [.t (.sl (x1.map Bind.row)), .t (.sc (.int .i64 x2))] noOb (.t (.sc (.int .i64 r))) noOb
theorem m_laws_szBindS_ok (fuel : Nat) : m_laws_szBindS_AC fuel := by
 intro x1 x2 r F0
 unfold ze5 at F0
 refine AC_i [.t (.sc (.int .i64 r))] Tryz.func6 rfl Tryz.ntmps6 ?_
 intro C hC
 refine zb (za ?_)
 refine s_as ?_
 refine zf (zd (zb (za ?_)))
 refine s_mv ?_
 refine s_mv ?_
 refine zE yU22 ?_
 refine s_sub rfl ?_
 refine s_as ?_
 refine zf (zd (zb (zb (za ?_))))
 refine s_mv ?_
 refine s_lt ?_
 refine zf (zd ?_)
 refine zn F0 ?_ ?_ <;> intro C1 F1
 refine zb (za ?_)
 refine s_as ?_
 refine zf (zd (zh (zg (zm ?_))))
 cases F1
 exact zk [] [] Tryz.results6
 refine zi (zd (zb (zb (za ?_))))
 refine s_as ?_
 refine zf (zd (zl ?_))
 refine zap (β := Int × Int) [1, 4, 5, 12, 13, 14, 15, 16, 17, 18, 19, 20, 21, 22, 23, 24, 25] [] [] (fun a => [(1, .t (.sc (.int .i64 a.2.1))), (5, .t (.sc (.int .i64 a.2.2)))]) (fun a => []) (fun a => a.1 ≤ fuel ∧ zb1 a.1 x1 a.2.1 a.2.2 = some r ∧ 0 ≤ a.2.2) (fuel, (w64 (x2 - (x1.length : Int))), 0) ⟨Nat.le_refl _, F1, by simp⟩ ?_
 clear F1
 rintro ⟨fu, g2, g3⟩ ⟨hl4, F2, hn_g3⟩
 dsimp only at hl4 F2 hn_g3 ⊢
 obtain _ | fu := fu
 · rw [zb1] at F2; cases F2
 rw [zb1] at F2
 refine zb (zb (za ?_))
 refine s_mv ?_
 refine s_mv ?_
 refine zE yU22 ?_
 refine s_lt ?_
 refine zf (zd ?_)
 refine zn F2 ?_ ?_ <;> intro C5 F3
 refine zG 0 (fun B6 => ?_)
 refine zi (zd (zb (zl (zb (za ?_)))))
 refine s_mv ?_
 refine s_mv ?_
 obtain ⟨v7, V7, F4⟩ := zc F3
 refine zL Bind.row V7 (Bind.row_eq _) yE22 ?_
 refine zag yA77 yS77 ?_
 refine s_mv ?_
 obtain ⟨v8, V8, F5⟩ := zc F4
 refine zz [] (m_laws_szBind_ok fu _ _ _ V8) ?_
 refine s_as ?_
 refine zf (zd (zb (za ?_)))
 refine s_mv ?_
 refine s_lt ?_
 refine zf (zd ?_)
 refine zn F5 ?_ ?_ <;> intro C9 F6
 refine zb (za ?_)
 refine s_as ?_
 refine zf (zd (zh (zj (zg (zu (zj (zg (zm ?_))))))))
 cases F6
 exact zk [] [] Tryz.results6
 refine zi (z6 (zd (za ?_)))
 refine s_mv ?_
 refine zI (zak C5 B6 hn_g3) ?_
 refine s_as ?_
 refine zf ?_
 exact s_rn (fu, v8, (g3 + 1)) ⟨by first | omega | (dsimp only; omega), F6, by first | omega | (dsimp only; omega)⟩
 refine zB (zw (zr (zx (zd (zb (za ?_))))))
 refine s_mv ?_
 refine s_as ?_
 refine zf (zd (zh (zm ?_)))
 cases F3
 exact zk [] [] Tryz.results6
def zea (fuel : Nat) : Prop := ∀ (x1 : Form) (x2 : Int) (r : Int), zcq fuel x1 x2 = some r → AC Tryz.prog 7 [.ag [.t (.sc (.int .i64 x1.kind)), .t (.sc (.str x1.name)), .t (.sc (.int .i64 x1.n)), .t (.sl (x1.scopes.map rI)), .t (.sl (x1.kids.map Form.row))], .t (.sc (.int .i64 x2))] noOb (.t (.sc (.int .i64 r))) noOb
def zdM (fuel : Nat) : Prop := ∀ (x1 : (List Form)) (x2 : Int) (r : Int), zcU fuel x1 x2 = some r → AC Tryz.prog 8 [.t (.sl (x1.map Form.row)), .t (.sc (.int .i64 x2))] noOb (.t (.sc (.int .i64 r))) noOb
theorem m_laws_szForm_st (fu : Nat) (ih_m_laws_szForm : ∀ k, k ≤ fu → zea k) (ih_m_laws_szFormS : ∀ k, k ≤ fu → zdM k) : zea (fu + 1) := by
 intro x1 x2 r F0
 rw [zcq] at F0
 refine AC_i [.t (.sc (.int .i64 r))] Tryz.func7 rfl Tryz.ntmps7 ?_
 intro C hC
 refine zb (za ?_)
 refine zaF ?_
 refine s_as ?_
 refine zf (zd (zb (za ?_)))
 refine s_mv ?_
 refine s_fa yF26_1 ?_
 refine zp yA9 ?_
 refine s_lenS yU9 ?_
 refine s_sub rfl ?_
 refine s_as ?_
 refine zf (zd (zb (zb (za ?_))))
 refine s_mv ?_
 refine s_lt ?_
 refine zf (zd ?_)
 refine zn F0 ?_ ?_ <;> intro C1 F1
 refine zb (za ?_)
 refine s_as ?_
 refine zf (zd (zh (zg (zm ?_))))
 cases F1
 exact zk [] [] Tryz.results7
 refine zi (zd (zb (za ?_)))
 refine s_fa yF26_3 ?_
 refine zp yA23 ?_
 refine s_mv ?_
 obtain ⟨v2, V2, F2⟩ := zc F1
 refine zz [] (m_laws_szIntS_ok fu _ _ _ V2) ?_
 refine s_as ?_
 refine zf (zd (zb (zb (za ?_))))
 refine s_mv ?_
 refine s_lt ?_
 refine zf (zd ?_)
 refine zn F2 ?_ ?_ <;> intro C3 F3
 refine zb (za ?_)
 refine s_as ?_
 refine zf (zd (zh (zg (zm ?_))))
 cases F3
 exact zk [] [] Tryz.results7
 refine zi (zd (zb (za ?_)))
 refine s_fa yF26_4 ?_
 refine zp yA24 ?_
 refine s_mv ?_
 obtain ⟨v4, V4, F4⟩ := zc F3
 refine zz [] (ih_m_laws_szFormS fu (by omega) _ _ _ V4) ?_
 refine s_as ?_
 refine zf (zd (zb (zb (za ?_))))
 refine s_mv ?_
 refine s_lt ?_
 refine zf (zd ?_)
 refine zn F4 ?_ ?_ <;> intro C5 F5
 refine zb (za ?_)
 refine s_as ?_
 refine zf (zd (zh (zg (zm ?_))))
 cases F5
 exact zk [] [] Tryz.results7
 refine zi (zd (zb (za ?_)))
 refine s_mv ?_
 refine s_as ?_
 refine zf (zd (zh (zm ?_)))
 cases F5
 exact zk [] [] Tryz.results7
theorem m_laws_szFormS_st (fu : Nat) (ih_m_laws_szForm : ∀ k, k ≤ fu → zea k) (ih_m_laws_szFormS : ∀ k, k ≤ fu → zdM k) : zdM (fu + 1) := by
 intro x1 x2 r F0
 rw [zcU] at F0
 refine AC_i [.t (.sc (.int .i64 r))] Tryz.func8 rfl Tryz.ntmps8 ?_
 intro C hC
 refine zb (za ?_)
 refine s_as ?_
 refine zf (zd (zb (za ?_)))
 refine s_mv ?_
 refine s_mv ?_
 refine zE yU24 ?_
 refine s_sub rfl ?_
 refine s_as ?_
 refine zf (zd (zb (zb (za ?_))))
 refine s_mv ?_
 refine s_lt ?_
 refine zf (zd ?_)
 refine zn F0 ?_ ?_ <;> intro C1 F1
 refine zb (za ?_)
 refine s_as ?_
 refine zf (zd (zh (zg (zm ?_))))
 cases F1
 exact zk [] [] Tryz.results8
 refine zi (zd (zb (zb (za ?_))))
 refine s_as ?_
 refine zf (zd (zl ?_))
 refine zap (β := Int × Int) [1, 4, 5, 12, 13, 14, 15, 16, 17, 18, 19, 20, 21, 22, 23, 24, 25] [] [] (fun a => [(1, .t (.sc (.int .i64 a.2.1))), (5, .t (.sc (.int .i64 a.2.2)))]) (fun a => []) (fun a => a.1 ≤ fu ∧ zaK a.1 x1 a.2.1 a.2.2 = some r ∧ 0 ≤ a.2.2) (fu, (w64 (x2 - (x1.length : Int))), 0) ⟨Nat.le_refl _, F1, by simp⟩ ?_
 clear F1
 rintro ⟨fu, g2, g3⟩ ⟨hl4, F2, hn_g3⟩
 dsimp only at hl4 F2 hn_g3 ⊢
 obtain _ | fu := fu
 · rw [zaK] at F2; cases F2
 rw [zaK] at F2
 refine zb (zb (za ?_))
 refine s_mv ?_
 refine s_mv ?_
 refine zE yU24 ?_
 refine s_lt ?_
 refine zf (zd ?_)
 refine zn F2 ?_ ?_ <;> intro C5 F3
 refine zG 0 (fun B6 => ?_)
 refine zi (zd (zb (zl (zb (za ?_)))))
 refine s_mv ?_
 refine s_mv ?_
 obtain ⟨v7, V7, F4⟩ := zc F3
 refine zL Form.row V7 (Form.row_eq _) yE24 ?_
 refine zag yA26 yS26 ?_
 refine s_mv ?_
 obtain ⟨v8, V8, F5⟩ := zc F4
 refine zz [] (ih_m_laws_szForm fu (by omega) _ _ _ V8) ?_
 refine s_as ?_
 refine zf (zd (zb (za ?_)))
 refine s_mv ?_
 refine s_lt ?_
 refine zf (zd ?_)
 refine zn F5 ?_ ?_ <;> intro C9 F6
 refine zb (za ?_)
 refine s_as ?_
 refine zf (zd (zh (zj (zg (zu (zj (zg (zm ?_))))))))
 cases F6
 exact zk [] [] Tryz.results8
 refine zi (z6 (zd (za ?_)))
 refine s_mv ?_
 refine zI (zak C5 B6 hn_g3) ?_
 refine s_as ?_
 refine zf ?_
 exact s_rn (fu, v8, (g3 + 1)) ⟨by first | omega | (dsimp only; omega), F6, by first | omega | (dsimp only; omega)⟩
 refine zB (zw (zr (zx (zd (zb (za ?_))))))
 refine s_mv ?_
 refine s_as ?_
 refine zf (zd (zh (zm ?_)))
 cases F3
 exact zk [] [] Tryz.results8
theorem zhf (fuel : Nat) : zea fuel ∧ zdM fuel := by
 induction fuel using Nat.strongRecOn with
 | _ N ih =>
   cases N with
   | zero => exact ⟨(by intro x1 x2 r h; rw [zcq] at h; cases h), (by intro x1 x2 r h; rw [zcU] at h; cases h)⟩
   | succ fu => exact ⟨m_laws_szForm_st fu (fun k hk => (ih k (by omega)).1) (fun k hk => (ih k (by omega)).2), m_laws_szFormS_st fu (fun k hk => (ih k (by omega)).1) (fun k hk => (ih k (by omega)).2)⟩
theorem m_laws_szForm_ok (fuel : Nat) : zea fuel := (zhf fuel).1
theorem m_laws_szFormS_ok (fuel : Nat) : zdM fuel := (zhf fuel).2
def m_laws_szRule_AC (fuel : Nat) : Prop := ∀ (x1 : Rule) (x2 : Int) (r : Int), zeM fuel x1 x2 = some r → AC Tryz.prog 70 [.ag [.t (.sc (.int .i64 x1.pattern.kind)), .t (.sc (.str x1.pattern.name)), .t (.sc (.int .i64 x1.pattern.n)), .t (.sl (x1.pattern.scopes.map rI)), .t (.sl (x1.pattern.kids.map Form.row)), .t (.sc (.int .i64 x1.template.kind)), .t (.sc (.str x1.template.name)), .t (.sc (.int .i64 x1.template.n)), .t (.sl (x1.template.scopes.map rI)), .t (.sl (x1.template.kids.map Form.row))], .t (.sc (.int .i64 x2))] noOb (.t (.sc (.int .i64 r))) noOb
theorem m_laws_szRule_ok (fuel : Nat) : m_laws_szRule_AC fuel := by
 intro x1 x2 r F0
 unfold zeM at F0
 refine AC_i [.t (.sc (.int .i64 r))] Tryz.func70 rfl Tryz.ntmps70 ?_
 intro C hC
 refine zb (za ?_)
 refine zaF ?_
 refine s_as ?_
 refine zf (zd (zb (za ?_)))
 refine s_fa yF103_0 ?_
 refine zag yA26 yS26 ?_
 refine s_mv ?_
 obtain ⟨v1, V1, F1⟩ := zc F0
 refine zz [] (m_laws_szForm_ok fuel _ _ _ V1) ?_
 refine s_as ?_
 refine zf (zd (zb (zb (za ?_))))
 refine s_mv ?_
 refine s_lt ?_
 refine zf (zd ?_)
 refine zn F1 ?_ ?_ <;> intro C2 F2
 refine zb (za ?_)
 refine s_as ?_
 refine zf (zd (zh (zg (zm ?_))))
 cases F2
 exact zk [] [] Tryz.results70
 refine zi (zd (zb (za ?_)))
 refine s_fa yF103_1 ?_
 refine zag yA26 yS26 ?_
 refine s_mv ?_
 obtain ⟨v3, V3, F3⟩ := zc F2
 refine zz [] (m_laws_szForm_ok fuel _ _ _ V3) ?_
 refine s_as ?_
 refine zf (zd (zb (zb (za ?_))))
 refine s_mv ?_
 refine s_lt ?_
 refine zf (zd ?_)
 refine zn F3 ?_ ?_ <;> intro C4 F4
 refine zb (za ?_)
 refine s_as ?_
 refine zf (zd (zh (zg (zm ?_))))
 cases F4
 exact zk [] [] Tryz.results70
 refine zi (zd (zb (za ?_)))
 refine s_mv ?_
 refine s_as ?_
 refine zf (zd (zh (zm ?_)))
 cases F4
 exact zk [] [] Tryz.results70
def m_laws_szRuleS_AC (fuel : Nat) : Prop := ∀ (x1 : (List Rule)) (x2 : Int) (r : Int), zel fuel x1 x2 = some r → AC Tryz.prog 32 [.t (.sl (x1.map Rule.row)), .t (.sc (.int .i64 x2))] noOb (.t (.sc (.int .i64 r))) noOb
theorem m_laws_szRuleS_ok (fuel : Nat) : m_laws_szRuleS_AC fuel := by
 intro x1 x2 r F0
 unfold zel at F0
 refine AC_i [.t (.sc (.int .i64 r))] Tryz.func32 rfl Tryz.ntmps32 ?_
 intro C hC
 refine zb (za ?_)
 refine s_as ?_
 refine zf (zd (zb (za ?_)))
 refine s_mv ?_
 refine s_mv ?_
 refine zE yU67 ?_
 refine s_sub rfl ?_
 refine s_as ?_
 refine zf (zd (zb (zb (za ?_))))
 refine s_mv ?_
 refine s_lt ?_
 refine zf (zd ?_)
 refine zn F0 ?_ ?_ <;> intro C1 F1
 refine zb (za ?_)
 refine s_as ?_
 refine zf (zd (zh (zg (zm ?_))))
 cases F1
 exact zk [] [] Tryz.results32
 refine zi (zd (zb (zb (za ?_))))
 refine s_as ?_
 refine zf (zd (zl ?_))
 refine zap (β := Int × Int) [1, 4, 5, 12, 13, 14, 15, 16, 17, 18, 19, 20, 21, 22, 23, 24, 25] [] [] (fun a => [(1, .t (.sc (.int .i64 a.2.1))), (5, .t (.sc (.int .i64 a.2.2)))]) (fun a => []) (fun a => a.1 ≤ fuel ∧ zb0 a.1 x1 a.2.1 a.2.2 = some r ∧ 0 ≤ a.2.2) (fuel, (w64 (x2 - (x1.length : Int))), 0) ⟨Nat.le_refl _, F1, by simp⟩ ?_
 clear F1
 rintro ⟨fu, g2, g3⟩ ⟨hl4, F2, hn_g3⟩
 dsimp only at hl4 F2 hn_g3 ⊢
 obtain _ | fu := fu
 · rw [zb0] at F2; cases F2
 rw [zb0] at F2
 refine zb (zb (za ?_))
 refine s_mv ?_
 refine s_mv ?_
 refine zE yU67 ?_
 refine s_lt ?_
 refine zf (zd ?_)
 refine zn F2 ?_ ?_ <;> intro C5 F3
 refine zG 0 (fun B6 => ?_)
 refine zi (zd (zb (zl (zb (za ?_)))))
 refine s_mv ?_
 refine s_mv ?_
 obtain ⟨v7, V7, F4⟩ := zc F3
 refine zL Rule.row V7 (Rule.row_eq _) yE67 ?_
 refine zag yA103 yS103 ?_
 refine s_mv ?_
 obtain ⟨v8, V8, F5⟩ := zc F4
 refine zz [] (m_laws_szRule_ok fu _ _ _ V8) ?_
 refine s_as ?_
 refine zf (zd (zb (za ?_)))
 refine s_mv ?_
 refine s_lt ?_
 refine zf (zd ?_)
 refine zn F5 ?_ ?_ <;> intro C9 F6
 refine zb (za ?_)
 refine s_as ?_
 refine zf (zd (zh (zj (zg (zu (zj (zg (zm ?_))))))))
 cases F6
 exact zk [] [] Tryz.results32
 refine zi (z6 (zd (za ?_)))
 refine s_mv ?_
 refine zI (zak C5 B6 hn_g3) ?_
 refine s_as ?_
 refine zf ?_
 exact s_rn (fu, v8, (g3 + 1)) ⟨by first | omega | (dsimp only; omega), F6, by first | omega | (dsimp only; omega)⟩
 refine zB (zw (zr (zx (zd (zb (za ?_))))))
 refine s_mv ?_
 refine s_as ?_
 refine zf (zd (zh (zm ?_)))
 cases F3
 exact zk [] [] Tryz.results32
def m_laws_szMacro_AC (fuel : Nat) : Prop := ∀ (x1 : zq) (x2 : Int) (r : Int), zem fuel x1 x2 = some r → AC Tryz.prog 109 [.ag [.t (.sc (.int .i64 x1.id)), .t (.sl (x1.literals.map Form.row)), .t (.sl (x1.rules.map Rule.row))], .t (.sc (.int .i64 x2))] noOb (.t (.sc (.int .i64 r))) noOb
theorem m_laws_szMacro_ok (fuel : Nat) : m_laws_szMacro_AC fuel := by
 intro x1 x2 r F0
 unfold zem at F0
 refine AC_i [.t (.sc (.int .i64 r))] Tryz.func109 rfl Tryz.ntmps109 ?_
 intro C hC
 refine zb (za ?_)
 refine zaF ?_
 refine s_as ?_
 refine zf (zd (zb (za ?_)))
 refine s_fa yF134_1 ?_
 refine zp yA24 ?_
 refine s_mv ?_
 obtain ⟨v1, V1, F1⟩ := zc F0
 refine zz [] (m_laws_szFormS_ok fuel _ _ _ V1) ?_
 refine s_as ?_
 refine zf (zd (zb (zb (za ?_))))
 refine s_mv ?_
 refine s_lt ?_
 refine zf (zd ?_)
 refine zn F1 ?_ ?_ <;> intro C2 F2
 refine zb (za ?_)
 refine s_as ?_
 refine zf (zd (zh (zg (zm ?_))))
 cases F2
 exact zk [] [] Tryz.results109
 refine zi (zd (zb (za ?_)))
 refine s_fa yF134_2 ?_
 refine zp yA67 ?_
 refine s_mv ?_
 obtain ⟨v3, V3, F3⟩ := zc F2
 refine zz [] (m_laws_szRuleS_ok fuel _ _ _ V3) ?_
 refine s_as ?_
 refine zf (zd (zb (zb (za ?_))))
 refine s_mv ?_
 refine s_lt ?_
 refine zf (zd ?_)
 refine zn F3 ?_ ?_ <;> intro C4 F4
 refine zb (za ?_)
 refine s_as ?_
 refine zf (zd (zh (zg (zm ?_))))
 cases F4
 exact zk [] [] Tryz.results109
 refine zi (zd (zb (za ?_)))
 refine s_mv ?_
 refine s_as ?_
 refine zf (zd (zh (zm ?_)))
 cases F4
 exact zk [] [] Tryz.results109
def m_laws_szMacroS_AC (fuel : Nat) : Prop := ∀ (x1 : (List zq)) (x2 : Int) (r : Int), zdL fuel x1 x2 = some r → AC Tryz.prog 59 [.t (.sl (x1.map zq.row)), .t (.sc (.int .i64 x2))] noOb (.t (.sc (.int .i64 r))) noOb
theorem m_laws_szMacroS_ok (fuel : Nat) : m_laws_szMacroS_AC fuel := by
 intro x1 x2 r F0
 unfold zdL at F0
 refine AC_i [.t (.sc (.int .i64 r))] Tryz.func59 rfl Tryz.ntmps59 ?_
 intro C hC
 refine zb (za ?_)
 refine s_as ?_
 refine zf (zd (zb (za ?_)))
 refine s_mv ?_
 refine s_mv ?_
 refine zE yU49 ?_
 refine s_sub rfl ?_
 refine s_as ?_
 refine zf (zd (zb (zb (za ?_))))
 refine s_mv ?_
 refine s_lt ?_
 refine zf (zd ?_)
 refine zn F0 ?_ ?_ <;> intro C1 F1
 refine zb (za ?_)
 refine s_as ?_
 refine zf (zd (zh (zg (zm ?_))))
 cases F1
 exact zk [] [] Tryz.results59
 refine zi (zd (zb (zb (za ?_))))
 refine s_as ?_
 refine zf (zd (zl ?_))
 refine zap (β := Int × Int) [1, 4, 5, 12, 13, 14, 15, 16, 17, 18, 19, 20, 21, 22, 23, 24, 25] [] [] (fun a => [(1, .t (.sc (.int .i64 a.2.1))), (5, .t (.sc (.int .i64 a.2.2)))]) (fun a => []) (fun a => a.1 ≤ fuel ∧ zbL a.1 x1 a.2.1 a.2.2 = some r ∧ 0 ≤ a.2.2) (fuel, (w64 (x2 - (x1.length : Int))), 0) ⟨Nat.le_refl _, F1, by simp⟩ ?_
 clear F1
 rintro ⟨fu, g2, g3⟩ ⟨hl4, F2, hn_g3⟩
 dsimp only at hl4 F2 hn_g3 ⊢
 obtain _ | fu := fu
 · rw [zbL] at F2; cases F2
 rw [zbL] at F2
 refine zb (zb (za ?_))
 refine s_mv ?_
 refine s_mv ?_
 refine zE yU49 ?_
 refine s_lt ?_
 refine zf (zd ?_)
 refine zn F2 ?_ ?_ <;> intro C5 F3
 refine zG 0 (fun B6 => ?_)
 refine zi (zd (zb (zl (zb (za ?_)))))
 refine s_mv ?_
 refine s_mv ?_
 obtain ⟨v7, V7, F4⟩ := zc F3
 refine zL zq.row V7 (zq.row_eq _) yE49 ?_
 refine zag yA134 yS134 ?_
 refine s_mv ?_
 obtain ⟨v8, V8, F5⟩ := zc F4
 refine zz [] (m_laws_szMacro_ok fu _ _ _ V8) ?_
 refine s_as ?_
 refine zf (zd (zb (za ?_)))
 refine s_mv ?_
 refine s_lt ?_
 refine zf (zd ?_)
 refine zn F5 ?_ ?_ <;> intro C9 F6
 refine zb (za ?_)
 refine s_as ?_
 refine zf (zd (zh (zj (zg (zu (zj (zg (zm ?_))))))))
 cases F6
 exact zk [] [] Tryz.results59
 refine zi (z6 (zd (za ?_)))
 refine s_mv ?_
 refine zI (zak C5 B6 hn_g3) ?_
 refine s_as ?_
 refine zf ?_
 exact s_rn (fu, v8, (g3 + 1)) ⟨by first | omega | (dsimp only; omega), F6, by first | omega | (dsimp only; omega)⟩
 refine zB (zw (zr (zx (zd (zb (za ?_))))))
 refine s_mv ?_
 refine s_as ?_
 refine zf (zd (zh (zm ?_)))
 cases F3
 exact zk [] [] Tryz.results59
def m_laws_szExpansion_AC (fuel : Nat) : Prop := ∀ (x1 : zv) (x2 : Int) (r : Int), zdl fuel x1 x2 = some r → AC Tryz.prog 23 [.ag [.t (.sl (x1.binds.map Bind.row)), .t (.sl (x1.macros.map zq.row)), .t (.sc (.int .i64 x1.scope)), .t (.sc (.int .i64 x1.id)), .t (.sc (.int .i64 x1.steps))], .t (.sc (.int .i64 x2))] noOb (.t (.sc (.int .i64 r))) noOb
theorem m_laws_szExpansion_ok (fuel : Nat) : m_laws_szExpansion_AC fuel := by
 intro x1 x2 r F0
 unfold zdl at F0
 refine AC_i [.t (.sc (.int .i64 r))] Tryz.func23 rfl Tryz.ntmps23 ?_
 intro C hC
 refine zb (za ?_)
 refine zaF ?_
 refine s_as ?_
 refine zf (zd (zb (za ?_)))
 refine s_fa yF51_0 ?_
 refine zp yA22 ?_
 refine s_mv ?_
 obtain ⟨v1, V1, F1⟩ := zc F0
 refine zz [] (m_laws_szBindS_ok fuel _ _ _ V1) ?_
 refine s_as ?_
 refine zf (zd (zb (zb (za ?_))))
 refine s_mv ?_
 refine s_lt ?_
 refine zf (zd ?_)
 refine zn F1 ?_ ?_ <;> intro C2 F2
 refine zb (za ?_)
 refine s_as ?_
 refine zf (zd (zh (zg (zm ?_))))
 cases F2
 exact zk [] [] Tryz.results23
 refine zi (zd (zb (za ?_)))
 refine s_fa yF51_1 ?_
 refine zp yA49 ?_
 refine s_mv ?_
 obtain ⟨v3, V3, F3⟩ := zc F2
 refine zz [] (m_laws_szMacroS_ok fuel _ _ _ V3) ?_
 refine s_as ?_
 refine zf (zd (zb (zb (za ?_))))
 refine s_mv ?_
 refine s_lt ?_
 refine zf (zd ?_)
 refine zn F3 ?_ ?_ <;> intro C4 F4
 refine zb (za ?_)
 refine s_as ?_
 refine zf (zd (zh (zg (zm ?_))))
 cases F4
 exact zk [] [] Tryz.results23
 refine zi (zd (zb (za ?_)))
 refine s_mv ?_
 refine s_as ?_
 refine zf (zd (zh (zm ?_)))
 cases F4
 exact zk [] [] Tryz.results23
def m_laws_toIntS_AC (fuel : Nat) : Prop := ∀ (x1 : (List Int)) (r : (List Int)), zdi fuel x1 = some r → AC Tryz.prog 47 [.t (.sl (x1.map rI))] noOb (.t (.sl (r.map rI))) noOb
theorem m_laws_toIntS_ok (fuel : Nat) : m_laws_toIntS_AC fuel := by
 intro x1 r F0
 unfold zdi at F0
 refine AC_i [.t (.sl (r.map rI))] Tryz.func47 rfl Tryz.ntmps47 ?_
 intro C hC
 refine zb (za ?_)
 refine s_as ?_
 refine zf (zd (zb (za ?_)))
 refine s_mv ?_
 refine zE yU23 ?_
 obtain ⟨hk1, F1⟩ := zaS F0
 refine s_mk rI 0 rfl hk1 yP23 yR3 ?_
 refine s_as ?_
 refine zf (zd (zb (zb (za ?_))))
 refine s_as ?_
 refine zf (zd (zl ?_))
 refine zap (β := Int × (List Int)) [4, 8, 9, 10, 11, 12, 13, 14, 15, 16, 17, 18, 19, 20] [7] [] (fun a => [(4, .t (.sc (.int .i64 a.2.1)))]) (fun a => [(7, .arr (a.2.2.map rI) 3 true)]) (fun a => a.1 ≤ fuel ∧ zbA a.1 x1 a.2.1 a.2.2 = some r ∧ 0 ≤ a.2.1) (fuel, 0, (List.replicate (x1.length : Int).toNat 0)) ⟨Nat.le_refl _, F1, by simp⟩ ?_
 clear F1
 rintro ⟨fu, g2, g3⟩ ⟨hl4, F2, hn_g2⟩
 dsimp only at hl4 F2 hn_g2 ⊢
 obtain _ | fu := fu
 · rw [zbA] at F2; cases F2
 rw [zbA] at F2
 refine zb (zb (za ?_))
 refine s_mv ?_
 refine s_mv ?_
 refine zE yU23 ?_
 refine s_lt ?_
 refine zf (zd ?_)
 refine zn F2 ?_ ?_ <;> intro C5 F3
 refine zG 0 (fun B6 => ?_)
 refine zi (zd (zb (zl (za ?_))))
 iterate 4 refine s_mv ?_
 obtain ⟨v7, V7, F4⟩ := zc F3
 refine zL rI V7 rfl yE23 ?_
 refine zp yA3 ?_
 obtain ⟨v8, V8, F5⟩ := zc F4
 refine s_ixA rI V8 yE23 ?_
 refine s_stA rI v7 V8 rfl rfl yS3 yS3 ?_
 refine zf (z6 (zd (za ?_)))
 refine s_mv ?_
 refine zI (zak C5 B6 hn_g2) ?_
 refine s_as ?_
 refine zf ?_
 exact s_rn (fu, (g2 + 1), (g3.set g2.toNat v7)) ⟨by first | omega | (dsimp only; omega), F5, by first | omega | (dsimp only; omega)⟩
 refine zB (zw (zr (zx (zd (zb (za ?_))))))
 refine s_mv ?_
 refine s_as ?_
 refine zf (zd (zh (zm ?_)))
 cases F3
 exact zk [] [7] Tryz.results47
def m_laws_toBind_AC (fuel : Nat) : Prop := ∀ (x1 : Bind) (r : Bind), zdk fuel x1 = some r → AC Tryz.prog 46 [.ag [.t (.sc (.str x1.name)), .t (.sl (x1.scopes.map rI)), .t (.sc (.int .i64 x1.id))]] noOb (.ag [.t (.sc (.str r.name)), .t (.sl (r.scopes.map rI)), .t (.sc (.int .i64 r.id))]) noOb
theorem m_laws_toBind_ok (fuel : Nat) : m_laws_toBind_AC fuel := by
 intro x1 r F0
 unfold zdk at F0
 refine AC_i [.ag [.t (.sc (.str r.name)), .t (.sl (r.scopes.map rI)), .t (.sc (.int .i64 r.id))]] Tryz.func46 rfl Tryz.ntmps46 ?_
 intro C hC
 refine zb (za ?_)
 refine zaF ?_
 refine zU yZ83 ?_
 refine zf (zd (zb (za ?_)))
 refine zU yZ83 ?_
 refine zf (zd (zb (za ?_)))
 refine s_fa yF77_0 ?_
 refine zp yA9 ?_
 refine s_fa yF83_0 ?_
 refine zcY yS9 ?_
 refine zf (zd (zb (za ?_)))
 refine s_fa yF77_1 ?_
 refine zp yA23 ?_
 obtain ⟨v1, V1, F1⟩ := zc F0
 refine zz [] (m_laws_toIntS_ok fuel _ _ V1) ?_
 refine s_fa yF83_1 ?_
 refine zcY yS23 ?_
 refine zf (zd (zb (za ?_)))
 refine s_fa yF77_2 ?_
 refine zp yA3 ?_
 refine s_fa zg7 ?_
 refine zcY yS3 ?_
 refine zf (zd (zb (za ?_)))
 refine zad yA83 yS83 ?_
 refine zb4 yS83 ?_
 refine zf (zd (zh (zm ?_)))
 cases F1
 exact zch [] [] (by rw [Tryz.results46]; exact (zdt (by conv => lhs; whnf) (by conv => lhs; whnf) yA83 yS83 rfl zcj))
def m_laws_toBindS_AC (fuel : Nat) : Prop := ∀ (x1 : (List Bind)) (r : (List Bind)), zdz fuel x1 = some r → AC Tryz.prog 10 [.t (.sl (x1.map Bind.row))] noOb (.t (.sl (r.map Bind.row))) noOb
theorem m_laws_toBindS_ok (fuel : Nat) : m_laws_toBindS_AC fuel := by
 intro x1 r F0
 unfold zdz at F0
 refine AC_i [.t (.sl (r.map Bind.row))] Tryz.func10 rfl Tryz.ntmps10 ?_
 intro C hC
 refine zb (za ?_)
 refine s_as ?_
 refine zf (zd (zb (za ?_)))
 refine s_mv ?_
 refine zE yU22 ?_
 obtain ⟨hk1, F1⟩ := zaS F0
 refine s_mk Bind.row (Bind.mk (⟨#[]⟩ : ByteArray) ([] : List Int) 0) (Bind.row_eq _) hk1 yP33 yR83 ?_
 refine s_as ?_
 refine zf (zd (zb (zb (za ?_))))
 refine s_as ?_
 refine zf (zd (zl ?_))
 refine zap (β := Int × (List Bind)) [4, 8, 9, 10, 11, 12, 13, 14, 15, 16, 17, 18, 19, 20, 21] [7] [] (fun a => [(4, .t (.sc (.int .i64 a.2.1)))]) (fun a => [(7, .arr (a.2.2.map Bind.row) 83 true)]) (fun a => a.1 ≤ fuel ∧ za3 a.1 x1 a.2.1 a.2.2 = some r ∧ 0 ≤ a.2.1) (fuel, 0, (List.replicate (x1.length : Int).toNat (Bind.mk (⟨#[]⟩ : ByteArray) ([] : List Int) 0))) ⟨Nat.le_refl _, F1, by simp⟩ ?_
 clear F1
 rintro ⟨fu, g2, g3⟩ ⟨hl4, F2, hn_g2⟩
 dsimp only at hl4 F2 hn_g2 ⊢
 obtain _ | fu := fu
 · rw [za3] at F2; cases F2
 rw [za3] at F2
 refine zb (zb (za ?_))
 refine s_mv ?_
 refine s_mv ?_
 refine zE yU22 ?_
 refine s_lt ?_
 refine zf (zd ?_)
 refine zn F2 ?_ ?_ <;> intro C5 F3
 refine zG 0 (fun B6 => ?_)
 refine zi (zd (zb (zl (za ?_))))
 iterate 4 refine s_mv ?_
 obtain ⟨v7, V7, F4⟩ := zc F3
 refine zL Bind.row V7 (Bind.row_eq _) yE22 ?_
 refine zag yA77 yS77 ?_
 obtain ⟨v8, V8, F5⟩ := zc F4
 refine zz [] (m_laws_toBind_ok fu _ _ V8) ?_
 obtain ⟨v9, V9, F6⟩ := zc F5
 refine s_ixA Bind.row V9 yE33 ?_
 refine s_stA Bind.row v8 V9 (Bind.row_eq _) (Bind.row_eq _) yS83 yS83 ?_
 refine zf (z6 (zd (za ?_)))
 refine s_mv ?_
 refine zI (zak C5 B6 hn_g2) ?_
 refine s_as ?_
 refine zf ?_
 exact s_rn (fu, (g2 + 1), (g3.set g2.toNat v8)) ⟨by first | omega | (dsimp only; omega), F6, by first | omega | (dsimp only; omega)⟩
 refine zB (zw (zr (zx (zd (zb (za ?_))))))
 refine s_mv ?_
 refine s_as ?_
 refine zf (zd (zh (zm ?_)))
 cases F3
 exact zk [] [7] Tryz.results10
def zd9 (fuel : Nat) : Prop := ∀ (x1 : Form) (r : Form), zbg fuel x1 = some r → AC Tryz.prog 11 [.ag [.t (.sc (.int .i64 x1.kind)), .t (.sc (.str x1.name)), .t (.sc (.int .i64 x1.n)), .t (.sl (x1.scopes.map rI)), .t (.sl (x1.kids.map Form.row))]] noOb (.ag [.t (.sc (.int .i64 r.kind)), .t (.sc (.str r.name)), .t (.sc (.int .i64 r.n)), .t (.sl (r.scopes.map rI)), .t (.sl (r.kids.map Form.row))]) noOb
def zdK (fuel : Nat) : Prop := ∀ (x1 : (List Form)) (r : (List Form)), zbQ fuel x1 = some r → AC Tryz.prog 12 [.t (.sl (x1.map Form.row))] noOb (.t (.sl (r.map Form.row))) noOb
theorem m_laws_toForm_st (fu : Nat) (ih_m_laws_toForm : ∀ k, k ≤ fu → zd9 k) (ih_m_laws_toFormS : ∀ k, k ≤ fu → zdK k) : zd9 (fu + 1) := by
 intro x1 r F0
 rw [zbg] at F0
 refine AC_i [.ag [.t (.sc (.int .i64 r.kind)), .t (.sc (.str r.name)), .t (.sc (.int .i64 r.n)), .t (.sl (r.scopes.map rI)), .t (.sl (r.kids.map Form.row))]] Tryz.func11 rfl Tryz.ntmps11 ?_
 intro C hC
 refine zb (za ?_)
 refine zaF ?_
 refine zU yZ37 ?_
 refine zf (zd (zb (za ?_)))
 refine zU yZ37 ?_
 refine zf (zd (zb (za ?_)))
 refine s_fa yF26_0 ?_
 refine zp yA3 ?_
 refine s_fa zc8 ?_
 refine zcY yS3 ?_
 refine zf (zd (zb (za ?_)))
 refine s_fa yF26_1 ?_
 refine zp yA9 ?_
 refine s_fa zcH ?_
 refine zcY yS9 ?_
 refine zf (zd (zb (za ?_)))
 refine s_fa yF26_2 ?_
 refine zp yA3 ?_
 refine s_fa zep ?_
 refine zcY yS3 ?_
 refine zf (zd (zb (za ?_)))
 refine s_fa yF26_3 ?_
 refine zp yA23 ?_
 obtain ⟨v1, V1, F1⟩ := zc F0
 refine zz [] (m_laws_toIntS_ok fu _ _ V1) ?_
 refine s_fa zeu ?_
 refine zcY yS23 ?_
 refine zf (zd (zb (za ?_)))
 refine s_fa yF26_4 ?_
 refine zp yA24 ?_
 obtain ⟨v2, V2, F2⟩ := zc F1
 refine zz [] (ih_m_laws_toFormS fu (by omega) _ _ V2) ?_
 refine s_fa zZ ?_
 refine zcY yS35 ?_
 refine zf (zd (zb (za ?_)))
 refine zad yA37 yS37 ?_
 refine zb4 yS37 ?_
 refine zf (zd (zh (zm ?_)))
 cases F2
 exact zch [] [] (by rw [Tryz.results11]; exact (zdt (by conv => lhs; whnf) (by conv => lhs; whnf) yA37 yS37 rfl zcj))
theorem m_laws_toFormS_st (fu : Nat) (ih_m_laws_toForm : ∀ k, k ≤ fu → zd9 k) (ih_m_laws_toFormS : ∀ k, k ≤ fu → zdK k) : zdK (fu + 1) := by
 intro x1 r F0
 rw [zbQ] at F0
 refine AC_i [.t (.sl (r.map Form.row))] Tryz.func12 rfl Tryz.ntmps12 ?_
 intro C hC
 refine zb (za ?_)
 refine s_as ?_
 refine zf (zd (zb (za ?_)))
 refine s_mv ?_
 refine zE yU24 ?_
 obtain ⟨hk1, F1⟩ := zaS F0
 refine s_mk Form.row (Form.mk 0 (⟨#[]⟩ : ByteArray) 0 ([] : List Int) ([] : List Form)) (Form.row_eq _) hk1 yP35 yR37 ?_
 refine s_as ?_
 refine zf (zd (zb (zb (za ?_))))
 refine s_as ?_
 refine zf (zd (zl ?_))
 refine zap (β := Int × (List Form)) [4, 8, 9, 10, 11, 12, 13, 14, 15, 16, 17, 18, 19, 20, 21] [7] [] (fun a => [(4, .t (.sc (.int .i64 a.2.1)))]) (fun a => [(7, .arr (a.2.2.map Form.row) 37 true)]) (fun a => a.1 ≤ fu ∧ zaB a.1 x1 a.2.1 a.2.2 = some r ∧ 0 ≤ a.2.1) (fu, 0, (List.replicate (x1.length : Int).toNat (Form.mk 0 (⟨#[]⟩ : ByteArray) 0 ([] : List Int) ([] : List Form)))) ⟨Nat.le_refl _, F1, by simp⟩ ?_
 clear F1
 rintro ⟨fu, g2, g3⟩ ⟨hl4, F2, hn_g2⟩
 dsimp only at hl4 F2 hn_g2 ⊢
 obtain _ | fu := fu
 · rw [zaB] at F2; cases F2
 rw [zaB] at F2
 refine zb (zb (za ?_))
 refine s_mv ?_
 refine s_mv ?_
 refine zE yU24 ?_
 refine s_lt ?_
 refine zf (zd ?_)
 refine zn F2 ?_ ?_ <;> intro C5 F3
 refine zG 0 (fun B6 => ?_)
 refine zi (zd (zb (zl (za ?_))))
 iterate 4 refine s_mv ?_
 obtain ⟨v7, V7, F4⟩ := zc F3
 refine zL Form.row V7 (Form.row_eq _) yE24 ?_
 refine zag yA26 yS26 ?_
 obtain ⟨v8, V8, F5⟩ := zc F4
 refine zz [] (ih_m_laws_toForm fu (by omega) _ _ V8) ?_
 obtain ⟨v9, V9, F6⟩ := zc F5
 refine s_ixA Form.row V9 yE35 ?_
 refine s_stA Form.row v8 V9 (Form.row_eq _) (Form.row_eq _) yS37 yS37 ?_
 refine zf (z6 (zd (za ?_)))
 refine s_mv ?_
 refine zI (zak C5 B6 hn_g2) ?_
 refine s_as ?_
 refine zf ?_
 exact s_rn (fu, (g2 + 1), (g3.set g2.toNat v8)) ⟨by first | omega | (dsimp only; omega), F6, by first | omega | (dsimp only; omega)⟩
 refine zB (zw (zr (zx (zd (zb (za ?_))))))
 refine s_mv ?_
 refine s_as ?_
 refine zf (zd (zh (zm ?_)))
 cases F3
 exact zk [] [7] Tryz.results12
theorem zhe (fuel : Nat) : zd9 fuel ∧ zdK fuel := by
 induction fuel using Nat.strongRecOn with
 | _ N ih =>
   cases N with
   | zero => exact ⟨(by intro x1 r h; rw [zbg] at h; cases h), (by intro x1 r h; rw [zbQ] at h; cases h)⟩
   | succ fu => exact ⟨m_laws_toForm_st fu (fun k hk => (ih k (by omega)).1) (fun k hk => (ih k (by omega)).2), m_laws_toFormS_st fu (fun k hk => (ih k (by omega)).1) (fun k hk => (ih k (by omega)).2)⟩
theorem m_laws_toForm_ok (fuel : Nat) : zd9 fuel := (zhe fuel).1
theorem m_laws_toFormS_ok (fuel : Nat) : zdK fuel := (zhe fuel).2
def m_laws_toRule_AC (fuel : Nat) : Prop := ∀ (x1 : Rule) (r : Rule), zdh fuel x1 = some r → AC Tryz.prog 74 [.ag [.t (.sc (.int .i64 x1.pattern.kind)), .t (.sc (.str x1.pattern.name)), .t (.sc (.int .i64 x1.pattern.n)), .t (.sl (x1.pattern.scopes.map rI)), .t (.sl (x1.pattern.kids.map Form.row)), .t (.sc (.int .i64 x1.template.kind)), .t (.sc (.str x1.template.name)), .t (.sc (.int .i64 x1.template.n)), .t (.sl (x1.template.scopes.map rI)), .t (.sl (x1.template.kids.map Form.row))]] noOb (.ag [.t (.sc (.int .i64 r.pattern.kind)), .t (.sc (.str r.pattern.name)), .t (.sc (.int .i64 r.pattern.n)), .t (.sl (r.pattern.scopes.map rI)), .t (.sl (r.pattern.kids.map Form.row)), .t (.sc (.int .i64 r.template.kind)), .t (.sc (.str r.template.name)), .t (.sc (.int .i64 r.template.n)), .t (.sl (r.template.scopes.map rI)), .t (.sl (r.template.kids.map Form.row))]) noOb
theorem m_laws_toRule_ok (fuel : Nat) : m_laws_toRule_AC fuel := by
 intro x1 r F0
 unfold zdh at F0
 refine AC_i [.ag [.t (.sc (.int .i64 r.pattern.kind)), .t (.sc (.str r.pattern.name)), .t (.sc (.int .i64 r.pattern.n)), .t (.sl (r.pattern.scopes.map rI)), .t (.sl (r.pattern.kids.map Form.row)), .t (.sc (.int .i64 r.template.kind)), .t (.sc (.str r.template.name)), .t (.sc (.int .i64 r.template.n)), .t (.sl (r.template.scopes.map rI)), .t (.sl (r.template.kids.map Form.row))]] Tryz.func74 rfl Tryz.ntmps74 ?_
 intro C hC
 refine zb (za ?_)
 refine zaF ?_
 refine zU yZ96 ?_
 refine zf (zd (zb (za ?_)))
 refine zU yZ96 ?_
 refine zf (zd (zb (za ?_)))
 refine s_fa yF103_0 ?_
 refine zag yA26 yS26 ?_
 obtain ⟨v1, V1, F1⟩ := zc F0
 refine zz [] (m_laws_toForm_ok fuel _ _ V1) ?_
 refine s_fa zd3 ?_
 refine zcY yS37 ?_
 refine zf (zd (zb (za ?_)))
 refine s_fa yF103_1 ?_
 refine zag yA26 yS26 ?_
 obtain ⟨v2, V2, F2⟩ := zc F1
 refine zz [] (m_laws_toForm_ok fuel _ _ V2) ?_
 refine s_fa zfr ?_
 refine zcY yS37 ?_
 refine zf (zd (zb (za ?_)))
 refine zad yA96 yS96 ?_
 refine zb4 yS96 ?_
 refine zf (zd (zh (zm ?_)))
 cases F2
 exact zch [] [] (by rw [Tryz.results74]; exact (zdt (by conv => lhs; whnf) (by conv => lhs; whnf) yA96 yS96 rfl zcj))
def m_laws_toRuleS_AC (fuel : Nat) : Prop := ∀ (x1 : (List Rule)) (r : (List Rule)), zdy fuel x1 = some r → AC Tryz.prog 34 [.t (.sl (x1.map Rule.row))] noOb (.t (.sl (r.map Rule.row))) noOb
theorem m_laws_toRuleS_ok (fuel : Nat) : m_laws_toRuleS_AC fuel := by
 intro x1 r F0
 unfold zdy at F0
 refine AC_i [.t (.sl (r.map Rule.row))] Tryz.func34 rfl Tryz.ntmps34 ?_
 intro C hC
 refine zb (za ?_)
 refine s_as ?_
 refine zf (zd (zb (za ?_)))
 refine s_mv ?_
 refine zE yU67 ?_
 obtain ⟨hk1, F1⟩ := zaS F0
 refine s_mk Rule.row (Rule.mk (Form.mk 0 (⟨#[]⟩ : ByteArray) 0 ([] : List Int) ([] : List Form)) (Form.mk 0 (⟨#[]⟩ : ByteArray) 0 ([] : List Int) ([] : List Form))) (Rule.row_eq _) hk1 yP53 yR96 ?_
 refine s_as ?_
 refine zf (zd (zb (zb (za ?_))))
 refine s_as ?_
 refine zf (zd (zl ?_))
 refine zap (β := Int × (List Rule)) [4, 8, 9, 10, 11, 12, 13, 14, 15, 16, 17, 18, 19, 20, 21] [7] [] (fun a => [(4, .t (.sc (.int .i64 a.2.1)))]) (fun a => [(7, .arr (a.2.2.map Rule.row) 96 true)]) (fun a => a.1 ≤ fuel ∧ za2 a.1 x1 a.2.1 a.2.2 = some r ∧ 0 ≤ a.2.1) (fuel, 0, (List.replicate (x1.length : Int).toNat (Rule.mk (Form.mk 0 (⟨#[]⟩ : ByteArray) 0 ([] : List Int) ([] : List Form)) (Form.mk 0 (⟨#[]⟩ : ByteArray) 0 ([] : List Int) ([] : List Form))))) ⟨Nat.le_refl _, F1, by simp⟩ ?_
 clear F1
 rintro ⟨fu, g2, g3⟩ ⟨hl4, F2, hn_g2⟩
 dsimp only at hl4 F2 hn_g2 ⊢
 obtain _ | fu := fu
 · rw [za2] at F2; cases F2
 rw [za2] at F2
 refine zb (zb (za ?_))
 refine s_mv ?_
 refine s_mv ?_
 refine zE yU67 ?_
 refine s_lt ?_
 refine zf (zd ?_)
 refine zn F2 ?_ ?_ <;> intro C5 F3
 refine zG 0 (fun B6 => ?_)
 refine zi (zd (zb (zl (za ?_))))
 iterate 4 refine s_mv ?_
 obtain ⟨v7, V7, F4⟩ := zc F3
 refine zL Rule.row V7 (Rule.row_eq _) yE67 ?_
 refine zag yA103 yS103 ?_
 obtain ⟨v8, V8, F5⟩ := zc F4
 refine zz [] (m_laws_toRule_ok fu _ _ V8) ?_
 obtain ⟨v9, V9, F6⟩ := zc F5
 refine s_ixA Rule.row V9 yE53 ?_
 refine s_stA Rule.row v8 V9 (Rule.row_eq _) (Rule.row_eq _) yS96 yS96 ?_
 refine zf (z6 (zd (za ?_)))
 refine s_mv ?_
 refine zI (zak C5 B6 hn_g2) ?_
 refine s_as ?_
 refine zf ?_
 exact s_rn (fu, (g2 + 1), (g3.set g2.toNat v8)) ⟨by first | omega | (dsimp only; omega), F6, by first | omega | (dsimp only; omega)⟩
 refine zB (zw (zr (zx (zd (zb (za ?_))))))
 refine s_mv ?_
 refine s_as ?_
 refine zf (zd (zh (zm ?_)))
 cases F3
 exact zk [] [7] Tryz.results34
end Go.Abs
