/- A part of the proof: what the functions that the law calls answer, as pure values. -/
import Derived.Test.YtcebadpiebamdaaGreatK084892eefba9
import Derived.Test.YtcebadpiebamdaaGreatKfbd980a3bd19
import Derived.Test.YtcebadpiebamdaaGreatK423f84c32d54
import Derived.Test.YtcebadpiebamdaaGreatKf37186a4b7f9
import Derived.Test.YtcebadpiebamdaaGreatKf8de2f3a577a
import Derived.Test.YtcebadpiebamdaaGreatKed81ee324dc2
set_option linter.unusedSimpArgs false
set_option linter.unusedVariables false
set_option maxRecDepth 100000
set_option maxHeartbeats 4000000
namespace Go.Abs
open Go.Proofs
def m_impl_FindMacro_D_AC (fuel : Nat) : Prop := ∀ (x1 : zv) (x2 : Int) (r : (zq × Bool)), zcg fuel x1 x2 = some r → AC Tryz.prog 26 [.ag [.t (.sl (x1.binds.map Bind.row)), .t (.sl (x1.macros.map zq.row)), .t (.sc (.int .i64 x1.scope)), .t (.sc (.int .i64 x1.id)), .t (.sc (.int .i64 x1.steps))], .t (.sc (.int .i64 x2))] (objs []) (.tp [.ag [.t (.sc (.int .i64 r.1.id)), .ar 9201, .ar 9202], .t (.sc (.bool r.2))]) (objs [(9201, .dar (r.1.literals.map (Form.rowD 3 37)) 37), (9202, .dar (r.1.rules.map (Rule.rowD 3 37)) 96)])
theorem m_impl_FindMacro_D_ok (fuel : Nat) : m_impl_FindMacro_D_AC fuel := by
 intro x1 x2 r F0
 unfold zcg at F0
 refine AC_i [.ag [.t (.sc (.int .i64 r.1.id)), .ar 9201, .ar 9202], .t (.sc (.bool r.2))] Tryz.func26 rfl Tryz.ntmps26 ?_
 intro C hC
 refine zb (za ?_)
 refine zaF ?_
 refine zU yZ55 ?_
 refine s_as ?_
 refine zf (zd (zb (za ?_)))
 refine s_fa zd4 ?_
 refine zp yA58 ?_
 refine s_mv ?_
 obtain ⟨v1, V1, F1⟩ := zc F0
 refine zz [] (zfU fuel _ _ _ V1) ?_
 refine s_as ?_
 refine zf (zd (zb ?_))
 refine zgd (α := Nat × Bool) [11, 12, 13, 14, 15, 16, 17] [] [] (fun a => [(17, .t (.sc (.bool a.2)))]) (fun a => []) (fun a => a.1 ≤ fuel ∧ zau a.1 x1 v1 a.2 = some r) ?_ ?_
 refine za ?_
 refine zad yA60 yS60 ?_
 obtain ⟨v2, V2, F2⟩ := zc F1
 refine zz [] (zfu fuel _ _ V2) ?_
 refine zbC ?_
 refine s_mv ?_
 refine zy _ 14 F2 ?_ ?_ <;> intro C3 F3
 refine r_no rfl (r_no rfl ?_)
 refine zC ?_
 refine zf ?_
 exact s_jn (fuel, true) ⟨by first | omega | (dsimp only; omega), F3⟩
 refine s_mv ?_
 refine s_lt ?_
 refine zF ?_
 refine zf ?_
 exact s_jn (fuel, (decide (v1 < 0))) ⟨by first | omega | (dsimp only; omega), F3⟩
 clear F1
 rintro ⟨fu, g4⟩ ⟨hl5, F2⟩
 dsimp only at hl5 F2 ⊢
 obtain _ | fu := fu
 · rw [zau] at F2; cases F2
 rw [zau] at F2
 refine zn F2 ?_ ?_ <;> intro C6 F3
 refine zb (za ?_)
 refine s_bld yZ55 yL55 ?_
 refine zb4 yS55 ?_
 refine s_as ?_
 refine zf (zd ?_)
 refine zfN 4 9201 37 [.t (.sc (.int .i64 0)), .ar 9201, .nl] yI37.choose_spec ?_
 refine awp_toD 9201 (Form.rowD 3 37) (es := ([] : List Form).map Form.row) (by (conv => lhs; whnf) <;> rfl) rfl ?_
 refine zfN 4 9202 96 [.t (.sc (.int .i64 0)), .ar 9201, .ar 9202] yI96.choose_spec ?_
 refine awp_toD 9202 (Rule.rowD 3 37) (es := ([] : List Rule).map Rule.row) (by (conv => lhs; whnf) <;> rfl) rfl ?_
 refine zh (zg (zm ?_))
 cases F3
 exact zch _ [] (by rw [Tryz.results26]; exact (zdt (by conv => lhs; whnf) (by conv => lhs; whnf) yA55 yS55 rfl (zds (by conv => lhs; whnf) zcj)))
 refine zi (zd (zb (za ?_)))
 refine s_fa zd4 ?_
 refine zp yA58 ?_
 refine s_mv ?_
 obtain ⟨v7, V7, F4⟩ := zc F3
 refine zL zq.row V7 (zq.row_eq _) yE58 ?_
 refine zag yA55 yS55 ?_
 obtain ⟨v8, V8, F5⟩ := zc F4
 refine zQ [(9201, 2024), (9202, 12024)] [] _ _ (m_impl_copyMacro_D_ok fu _ _ V8) ?_
 refine zb4 yS55 ?_
 refine s_as ?_
 refine zf (zd ?_)
 refine zfh 4 2024 9201 [.t (.sc (.int .i64 v8.id)), .ar 9201, .ar 12024] ?_
 refine zfh 4 12024 9202 [.t (.sc (.int .i64 v8.id)), .ar 9201, .ar 9202] ?_
 refine zh (zm ?_)
 cases F5
 exact zch _ [] (by rw [Tryz.results26]; exact (zdt (by conv => lhs; whnf) (by conv => lhs; whnf) yA55 yS55 rfl (zds (by conv => lhs; whnf) zcj)))
def m_laws_eqIntS_AC (fuel : Nat) : Prop := ∀ (x1 : (List Int)) (x2 : (List Int)) (r : Bool), zeR fuel x1 x2 = some r → AC Tryz.prog 54 [.t (.sl (x1.map rI)), .t (.sl (x2.map rI))] noOb (.t (.sc (.bool r))) noOb
theorem m_laws_eqIntS_ok (fuel : Nat) : m_laws_eqIntS_AC fuel := by
 intro x1 x2 r F0
 unfold zeR at F0
 refine AC_i [.t (.sc (.bool r))] Tryz.func54 rfl Tryz.ntmps54 ?_
 intro C hC
 refine zb (za ?_)
 refine s_as ?_
 refine zf (zd (zb (zb (za ?_))))
 refine s_mv ?_
 refine zE yU23 ?_
 refine s_mv ?_
 refine zE yU23 ?_
 refine s_ne ?_
 refine zf (zd ?_)
 refine zn F0 ?_ ?_ <;> intro C1 F1
 refine zb (za ?_)
 refine s_as ?_
 refine zf (zd (zh (zg (zm ?_))))
 cases F1
 exact zk [] [] Tryz.results54
 refine zi (zd (zb (zb (za ?_))))
 refine s_as ?_
 refine zf (zd (zl ?_))
 refine zap (β := Int) [4, 5, 11, 12, 13, 14, 15, 16, 17, 18, 19, 20, 21, 22, 23, 24, 25] [] [] (fun a => [(5, .t (.sc (.int .i64 a.2)))]) (fun a => []) (fun a => a.1 ≤ fuel ∧ zcE a.1 x1 x2 a.2 = some r ∧ 0 ≤ a.2) (fuel, 0) ⟨Nat.le_refl _, F1, by simp⟩ ?_
 clear F1
 rintro ⟨fu, g2⟩ ⟨hl3, F2, hn_g2⟩
 dsimp only at hl3 F2 hn_g2 ⊢
 obtain _ | fu := fu
 · rw [zcE] at F2; cases F2
 rw [zcE] at F2
 refine zb (zb (za ?_))
 refine s_mv ?_
 refine s_mv ?_
 refine zE yU23 ?_
 refine s_lt ?_
 refine zf (zd ?_)
 refine zn F2 ?_ ?_ <;> intro C4 F3
 refine zG 0 (fun B5 => ?_)
 refine zi (zd (zb (zl (zb ?_))))
 refine zaf yMix (by kernel_rfl) ?_
 refine s_mv ?_
 refine s_mv ?_
 obtain ⟨v6, V6, F4⟩ := zc F3
 refine zL rI V6 rfl yE23 ?_
 refine zp yA3 ?_
 refine s_mv ?_
 refine s_mv ?_
 obtain ⟨v7, V7, F5⟩ := zc F4
 refine zL rI V7 rfl yE23 ?_
 refine zp yA3 ?_
 refine s_ne ?_
 refine zao (by kernel_rfl) ?_
 refine zd ?_
 refine zn F5 ?_ ?_ <;> intro C8 F6
 refine zb (za ?_)
 refine s_as ?_
 refine zf (zd (zh (zj (zg (zu (zj (zg (zm ?_))))))))
 cases F6
 exact zk [] [] Tryz.results54
 refine zi (z6 (zd (za ?_)))
 refine s_mv ?_
 refine zI (zak C4 B5 hn_g2) ?_
 refine s_as ?_
 refine zf ?_
 exact s_rn (fu, (g2 + 1)) ⟨by first | omega | (dsimp only; omega), F6, by first | omega | (dsimp only; omega)⟩
 refine zB (zw (zr (zx (zd (zb (za ?_))))))
 refine s_as ?_
 refine zf (zd (zh (zm ?_)))
 cases F3
 exact zk [] [] Tryz.results54
def zee (fuel : Nat) : Prop := ∀ (x1 : Form) (x2 : Form) (r : Bool), zb8 fuel x1 x2 = some r → AC Tryz.prog 16 [.ag [.t (.sc (.int .i64 x1.kind)), .t (.sc (.str x1.name)), .t (.sc (.int .i64 x1.n)), .t (.sl (x1.scopes.map rI)), .t (.sl (x1.kids.map Form.row))], .ag [.t (.sc (.int .i64 x2.kind)), .t (.sc (.str x2.name)), .t (.sc (.int .i64 x2.n)), .t (.sl (x2.scopes.map rI)), .t (.sl (x2.kids.map Form.row))]] noOb (.t (.sc (.bool r))) noOb
def zdO (fuel : Nat) : Prop := ∀ (x1 : (List Form)) (x2 : (List Form)) (r : Bool), zcV fuel x1 x2 = some r → AC Tryz.prog 17 [.t (.sl (x1.map Form.row)), .t (.sl (x2.map Form.row))] noOb (.t (.sc (.bool r))) noOb
theorem m_laws_eqForm_st (fu : Nat) (ih_m_laws_eqForm : ∀ k, k ≤ fu → zee k) (ih_m_laws_eqFormS : ∀ k, k ≤ fu → zdO k) : zee (fu + 1) := by
 intro x1 x2 r F0
 rw [zb8] at F0
 refine AC_i [.t (.sc (.bool r))] Tryz.func16 rfl Tryz.ntmps16 ?_
 intro C hC
 refine zb (za ?_)
 refine zaF ?_
 refine zaF ?_
 refine s_as ?_
 refine zf (zd (zb (zb (za ?_))))
 refine s_fa zc8 ?_
 refine zp yA3 ?_
 refine s_fa zc8 ?_
 refine zp yA3 ?_
 refine s_ne ?_
 refine zf (zd ?_)
 refine zn F0 ?_ ?_ <;> intro C1 F1
 refine zb (za ?_)
 refine s_as ?_
 refine zf (zd (zh (zg (zm ?_))))
 cases F1
 exact zk [] [] Tryz.results16
 refine zi (zd (zb (zb (za ?_))))
 refine s_fa zcH ?_
 refine zp yA9 ?_
 refine s_fa zcH ?_
 refine zp yA9 ?_
 refine s_neS ?_
 refine zf (zd ?_)
 refine zn F1 ?_ ?_ <;> intro C2 F2
 refine zb (za ?_)
 refine s_as ?_
 refine zf (zd (zh (zg (zm ?_))))
 cases F2
 exact zk [] [] Tryz.results16
 refine zi (zd (zb (zb (za ?_))))
 refine s_fa zep ?_
 refine zp yA3 ?_
 refine s_fa zep ?_
 refine zp yA3 ?_
 refine s_ne ?_
 refine zf (zd ?_)
 refine zn F2 ?_ ?_ <;> intro C3 F3
 refine zb (za ?_)
 refine s_as ?_
 refine zf (zd (zh (zg (zm ?_))))
 cases F3
 exact zk [] [] Tryz.results16
 refine zi (zd (zb (zb (za ?_))))
 refine s_fa zeu ?_
 refine zp yA23 ?_
 refine s_fa zeu ?_
 refine zp yA23 ?_
 obtain ⟨v4, V4, F4⟩ := zc F3
 refine zz [] (m_laws_eqIntS_ok fu _ _ _ V4) ?_
 refine zbC ?_
 refine zf (zd ?_)
 refine zn F4 ?_ ?_ <;> intro C5 F5
 refine zb (za ?_)
 refine s_as ?_
 refine zf (zd (zh (zg (zm ?_))))
 cases F5
 exact zk [] [] Tryz.results16
 refine zi (zd (zb (zb (za ?_))))
 refine s_fa zZ ?_
 refine zp yA35 ?_
 refine s_fa zZ ?_
 refine zp yA35 ?_
 obtain ⟨v6, V6, F6⟩ := zc F5
 refine zz [] (ih_m_laws_eqFormS fu (by omega) _ _ _ V6) ?_
 refine zbC ?_
 refine zf (zd ?_)
 refine zn F6 ?_ ?_ <;> intro C7 F7
 refine zb (za ?_)
 refine s_as ?_
 refine zf (zd (zh (zg (zm ?_))))
 cases F7
 exact zk [] [] Tryz.results16
 refine zi (zd (zb (za ?_)))
 refine s_as ?_
 refine zf (zd (zh (zm ?_)))
 cases F7
 exact zk [] [] Tryz.results16
theorem m_laws_eqFormS_st (fu : Nat) (ih_m_laws_eqForm : ∀ k, k ≤ fu → zee k) (ih_m_laws_eqFormS : ∀ k, k ≤ fu → zdO k) : zdO (fu + 1) := by
 intro x1 x2 r F0
 rw [zcV] at F0
 refine AC_i [.t (.sc (.bool r))] Tryz.func17 rfl Tryz.ntmps17 ?_
 intro C hC
 refine zb (za ?_)
 refine s_as ?_
 refine zf (zd (zb (zb (za ?_))))
 refine s_mv ?_
 refine zE yU35 ?_
 refine s_mv ?_
 refine zE yU35 ?_
 refine s_ne ?_
 refine zf (zd ?_)
 refine zn F0 ?_ ?_ <;> intro C1 F1
 refine zb (za ?_)
 refine s_as ?_
 refine zf (zd (zh (zg (zm ?_))))
 cases F1
 exact zk [] [] Tryz.results17
 refine zi (zd (zb (zb (za ?_))))
 refine s_as ?_
 refine zf (zd (zl ?_))
 refine zap (β := Int) [4, 5, 11, 12, 13, 14, 15, 16, 17, 18, 19, 20, 21, 22, 23, 24, 25, 26] [] [] (fun a => [(5, .t (.sc (.int .i64 a.2)))]) (fun a => []) (fun a => a.1 ≤ fu ∧ zbG a.1 x1 x2 a.2 = some r ∧ 0 ≤ a.2) (fu, 0) ⟨Nat.le_refl _, F1, by simp⟩ ?_
 clear F1
 rintro ⟨fu, g2⟩ ⟨hl3, F2, hn_g2⟩
 dsimp only at hl3 F2 hn_g2 ⊢
 obtain _ | fu := fu
 · rw [zbG] at F2; cases F2
 rw [zbG] at F2
 refine zb (zb (za ?_))
 refine s_mv ?_
 refine s_mv ?_
 refine zE yU35 ?_
 refine s_lt ?_
 refine zf (zd ?_)
 refine zn F2 ?_ ?_ <;> intro C4 F3
 refine zG 0 (fun B5 => ?_)
 refine zi (zd (zb (zl (zb ?_))))
 refine zaf yMix (by kernel_rfl) ?_
 refine s_mv ?_
 refine s_mv ?_
 obtain ⟨v6, V6, F4⟩ := zc F3
 refine zL Form.row V6 (Form.row_eq _) yE35 ?_
 refine zag yA37 yS37 ?_
 refine s_mv ?_
 refine s_mv ?_
 obtain ⟨v7, V7, F5⟩ := zc F4
 refine zL Form.row V7 (Form.row_eq _) yE35 ?_
 refine zag yA37 yS37 ?_
 obtain ⟨v8, V8, F6⟩ := zc F5
 refine zz [] (ih_m_laws_eqForm fu (by omega) _ _ _ V8) ?_
 refine zbC ?_
 refine zao (by kernel_rfl) ?_
 refine zd ?_
 refine zn F6 ?_ ?_ <;> intro C9 F7
 refine zb (za ?_)
 refine s_as ?_
 refine zf (zd (zh (zj (zg (zu (zj (zg (zm ?_))))))))
 cases F7
 exact zk [] [] Tryz.results17
 refine zi (z6 (zd (za ?_)))
 refine s_mv ?_
 refine zI (zak C4 B5 hn_g2) ?_
 refine s_as ?_
 refine zf ?_
 exact s_rn (fu, (g2 + 1)) ⟨by first | omega | (dsimp only; omega), F7, by first | omega | (dsimp only; omega)⟩
 refine zB (zw (zr (zx (zd (zb (za ?_))))))
 refine s_as ?_
 refine zf (zd (zh (zm ?_)))
 cases F3
 exact zk [] [] Tryz.results17
theorem zhg (fuel : Nat) : zee fuel ∧ zdO fuel := by
 induction fuel using Nat.strongRecOn with
 | _ N ih =>
   cases N with
   | zero => exact ⟨(by intro x1 x2 r h; rw [zb8] at h; cases h), (by intro x1 x2 r h; rw [zcV] at h; cases h)⟩
   | succ fu => exact ⟨m_laws_eqForm_st fu (fun k hk => (ih k (by omega)).1) (fun k hk => (ih k (by omega)).2), m_laws_eqFormS_st fu (fun k hk => (ih k (by omega)).1) (fun k hk => (ih k (by omega)).2)⟩
theorem m_laws_eqForm_ok (fuel : Nat) : zee fuel := (zhg fuel).1
theorem m_laws_eqFormS_ok (fuel : Nat) : zdO fuel := (zhg fuel).2
def m_laws_eqRule_AC (fuel : Nat) : Prop := ∀ (x1 : Rule) (x2 : Rule) (r : Bool), zeP fuel x1 x2 = some r → AC Tryz.prog 77 [.ag [.t (.sc (.int .i64 x1.pattern.kind)), .t (.sc (.str x1.pattern.name)), .t (.sc (.int .i64 x1.pattern.n)), .t (.sl (x1.pattern.scopes.map rI)), .t (.sl (x1.pattern.kids.map Form.row)), .t (.sc (.int .i64 x1.template.kind)), .t (.sc (.str x1.template.name)), .t (.sc (.int .i64 x1.template.n)), .t (.sl (x1.template.scopes.map rI)), .t (.sl (x1.template.kids.map Form.row))], .ag [.t (.sc (.int .i64 x2.pattern.kind)), .t (.sc (.str x2.pattern.name)), .t (.sc (.int .i64 x2.pattern.n)), .t (.sl (x2.pattern.scopes.map rI)), .t (.sl (x2.pattern.kids.map Form.row)), .t (.sc (.int .i64 x2.template.kind)), .t (.sc (.str x2.template.name)), .t (.sc (.int .i64 x2.template.n)), .t (.sl (x2.template.scopes.map rI)), .t (.sl (x2.template.kids.map Form.row))]] noOb (.t (.sc (.bool r))) noOb
theorem m_laws_eqRule_ok (fuel : Nat) : m_laws_eqRule_AC fuel := by
 intro x1 x2 r F0
 unfold zeP at F0
 refine AC_i [.t (.sc (.bool r))] Tryz.func77 rfl Tryz.ntmps77 ?_
 intro C hC
 refine zb (za ?_)
 refine zaF ?_
 refine zaF ?_
 refine s_as ?_
 refine zf (zd (zb (zb (za ?_))))
 refine s_fa zd3 ?_
 refine zag yA37 yS37 ?_
 refine s_fa zd3 ?_
 refine zag yA37 yS37 ?_
 obtain ⟨v1, V1, F1⟩ := zc F0
 refine zz [] (m_laws_eqForm_ok fuel _ _ _ V1) ?_
 refine zbC ?_
 refine zf (zd ?_)
 refine zn F1 ?_ ?_ <;> intro C2 F2
 refine zb (za ?_)
 refine s_as ?_
 refine zf (zd (zh (zg (zm ?_))))
 cases F2
 exact zk [] [] Tryz.results77
 refine zi (zd (zb (zb (za ?_))))
 refine s_fa zfr ?_
 refine zag yA37 yS37 ?_
 refine s_fa zfr ?_
 refine zag yA37 yS37 ?_
 obtain ⟨v3, V3, F3⟩ := zc F2
 refine zz [] (m_laws_eqForm_ok fuel _ _ _ V3) ?_
 refine zbC ?_
 refine zf (zd ?_)
 refine zn F3 ?_ ?_ <;> intro C4 F4
 refine zb (za ?_)
 refine s_as ?_
 refine zf (zd (zh (zg (zm ?_))))
 cases F4
 exact zk [] [] Tryz.results77
 refine zi (zd (zb (za ?_)))
 refine s_as ?_
 refine zf (zd (zh (zm ?_)))
 cases F4
 exact zk [] [] Tryz.results77
def m_laws_eqRuleS_AC (fuel : Nat) : Prop := ∀ (x1 : (List Rule)) (x2 : (List Rule)) (r : Bool), ze6 fuel x1 x2 = some r → AC Tryz.prog 36 [.t (.sl (x1.map Rule.row)), .t (.sl (x2.map Rule.row))] noOb (.t (.sc (.bool r))) noOb
theorem m_laws_eqRuleS_ok (fuel : Nat) : m_laws_eqRuleS_AC fuel := by
 intro x1 x2 r F0
 unfold ze6 at F0
 refine AC_i [.t (.sc (.bool r))] Tryz.func36 rfl Tryz.ntmps36 ?_
 intro C hC
 refine zb (za ?_)
 refine s_as ?_
 refine zf (zd (zb (zb (za ?_))))
 refine s_mv ?_
 refine zE yU53 ?_
 refine s_mv ?_
 refine zE yU53 ?_
 refine s_ne ?_
 refine zf (zd ?_)
 refine zn F0 ?_ ?_ <;> intro C1 F1
 refine zb (za ?_)
 refine s_as ?_
 refine zf (zd (zh (zg (zm ?_))))
 cases F1
 exact zk [] [] Tryz.results36
 refine zi (zd (zb (zb (za ?_))))
 refine s_as ?_
 refine zf (zd (zl ?_))
 refine zap (β := Int) [4, 5, 11, 12, 13, 14, 15, 16, 17, 18, 19, 20, 21, 22, 23, 24, 25, 26] [] [] (fun a => [(5, .t (.sc (.int .i64 a.2)))]) (fun a => []) (fun a => a.1 ≤ fuel ∧ zcl a.1 x1 x2 a.2 = some r ∧ 0 ≤ a.2) (fuel, 0) ⟨Nat.le_refl _, F1, by simp⟩ ?_
 clear F1
 rintro ⟨fu, g2⟩ ⟨hl3, F2, hn_g2⟩
 dsimp only at hl3 F2 hn_g2 ⊢
 obtain _ | fu := fu
 · rw [zcl] at F2; cases F2
 rw [zcl] at F2
 refine zb (zb (za ?_))
 refine s_mv ?_
 refine s_mv ?_
 refine zE yU53 ?_
 refine s_lt ?_
 refine zf (zd ?_)
 refine zn F2 ?_ ?_ <;> intro C4 F3
 refine zG 0 (fun B5 => ?_)
 refine zi (zd (zb (zl (zb ?_))))
 refine zaf yMix (by kernel_rfl) ?_
 refine s_mv ?_
 refine s_mv ?_
 obtain ⟨v6, V6, F4⟩ := zc F3
 refine zL Rule.row V6 (Rule.row_eq _) yE53 ?_
 refine zag yA96 yS96 ?_
 refine s_mv ?_
 refine s_mv ?_
 obtain ⟨v7, V7, F5⟩ := zc F4
 refine zL Rule.row V7 (Rule.row_eq _) yE53 ?_
 refine zag yA96 yS96 ?_
 obtain ⟨v8, V8, F6⟩ := zc F5
 refine zz [] (m_laws_eqRule_ok fu _ _ _ V8) ?_
 refine zbC ?_
 refine zao (by kernel_rfl) ?_
 refine zd ?_
 refine zn F6 ?_ ?_ <;> intro C9 F7
 refine zb (za ?_)
 refine s_as ?_
 refine zf (zd (zh (zj (zg (zu (zj (zg (zm ?_))))))))
 cases F7
 exact zk [] [] Tryz.results36
 refine zi (z6 (zd (za ?_)))
 refine s_mv ?_
 refine zI (zak C4 B5 hn_g2) ?_
 refine s_as ?_
 refine zf ?_
 exact s_rn (fu, (g2 + 1)) ⟨by first | omega | (dsimp only; omega), F7, by first | omega | (dsimp only; omega)⟩
 refine zB (zw (zr (zx (zd (zb (za ?_))))))
 refine s_as ?_
 refine zf (zd (zh (zm ?_)))
 cases F3
 exact zk [] [] Tryz.results36
def m_laws_eqMacro_AC (fuel : Nat) : Prop := ∀ (x1 : zq) (x2 : zq) (r : Bool), zcr fuel x1 x2 = some r → AC Tryz.prog 27 [.ag [.t (.sc (.int .i64 x1.id)), .t (.sl (x1.literals.map Form.row)), .t (.sl (x1.rules.map Rule.row))], .ag [.t (.sc (.int .i64 x2.id)), .t (.sl (x2.literals.map Form.row)), .t (.sl (x2.rules.map Rule.row))]] noOb (.t (.sc (.bool r))) noOb
theorem zeQ (fuel : Nat) : m_laws_eqMacro_AC fuel := by
 intro x1 x2 r F0
 unfold zcr at F0
 refine AC_i [.t (.sc (.bool r))] Tryz.func27 rfl Tryz.ntmps27 ?_
 intro C hC
 refine zb (za ?_)
 refine zaF ?_
 refine zaF ?_
 refine s_as ?_
 refine zf (zd (zb (zb (za ?_))))
 refine s_fa zgJ ?_
 refine zp yA3 ?_
 refine s_fa zgJ ?_
 refine zp yA3 ?_
 refine s_ne ?_
 refine zf (zd ?_)
 refine zn F0 ?_ ?_ <;> intro C1 F1
 refine zb (za ?_)
 refine s_as ?_
 refine zf (zd (zh (zg (zm ?_))))
 cases F1
 exact zk [] [] Tryz.results27
 refine zi (zd (zb (zb (za ?_))))
 refine s_fa zfy ?_
 refine zp yA35 ?_
 refine s_fa zfy ?_
 refine zp yA35 ?_
 obtain ⟨v2, V2, F2⟩ := zc F1
 refine zz [] (m_laws_eqFormS_ok fuel _ _ _ V2) ?_
 refine zbC ?_
 refine zf (zd ?_)
 refine zn F2 ?_ ?_ <;> intro C3 F3
 refine zb (za ?_)
 refine s_as ?_
 refine zf (zd (zh (zg (zm ?_))))
 cases F3
 exact zk [] [] Tryz.results27
 refine zi (zd (zb (zb (za ?_))))
 refine s_fa zfx ?_
 refine zp yA53 ?_
 refine s_fa zfx ?_
 refine zp yA53 ?_
 obtain ⟨v4, V4, F4⟩ := zc F3
 refine zz [] (m_laws_eqRuleS_ok fuel _ _ _ V4) ?_
 refine zbC ?_
 refine zf (zd ?_)
 refine zn F4 ?_ ?_ <;> intro C5 F5
 refine zb (za ?_)
 refine s_as ?_
 refine zf (zd (zh (zg (zm ?_))))
 cases F5
 exact zk [] [] Tryz.results27
 refine zi (zd (zb (za ?_)))
 refine s_as ?_
 refine zf (zd (zh (zm ?_)))
 cases F5
 exact zk [] [] Tryz.results27
def m_laws_eqBind_AC (fuel : Nat) : Prop := ∀ (x1 : Bind) (x2 : Bind) (r : Bool), zeS fuel x1 x2 = some r → AC Tryz.prog 53 [.ag [.t (.sc (.str x1.name)), .t (.sl (x1.scopes.map rI)), .t (.sc (.int .i64 x1.id))], .ag [.t (.sc (.str x2.name)), .t (.sl (x2.scopes.map rI)), .t (.sc (.int .i64 x2.id))]] noOb (.t (.sc (.bool r))) noOb
theorem m_laws_eqBind_ok (fuel : Nat) : m_laws_eqBind_AC fuel := by
 intro x1 x2 r F0
 unfold zeS at F0
 refine AC_i [.t (.sc (.bool r))] Tryz.func53 rfl Tryz.ntmps53 ?_
 intro C hC
 refine zb (za ?_)
 refine zaF ?_
 refine zaF ?_
 refine s_as ?_
 refine zf (zd (zb (zb (za ?_))))
 refine s_fa yF83_0 ?_
 refine zp yA9 ?_
 refine s_fa yF83_0 ?_
 refine zp yA9 ?_
 refine s_neS ?_
 refine zf (zd ?_)
 refine zn F0 ?_ ?_ <;> intro C1 F1
 refine zb (za ?_)
 refine s_as ?_
 refine zf (zd (zh (zg (zm ?_))))
 cases F1
 exact zk [] [] Tryz.results53
 refine zi (zd (zb (zb (za ?_))))
 refine s_fa yF83_1 ?_
 refine zp yA23 ?_
 refine s_fa yF83_1 ?_
 refine zp yA23 ?_
 obtain ⟨v2, V2, F2⟩ := zc F1
 refine zz [] (m_laws_eqIntS_ok fuel _ _ _ V2) ?_
 refine zbC ?_
 refine zf (zd ?_)
 refine zn F2 ?_ ?_ <;> intro C3 F3
 refine zb (za ?_)
 refine s_as ?_
 refine zf (zd (zh (zg (zm ?_))))
 cases F3
 exact zk [] [] Tryz.results53
 refine zi (zd (zb (zb (za ?_))))
 refine s_fa zg7 ?_
 refine zp yA3 ?_
 refine s_fa zg7 ?_
 refine zp yA3 ?_
 refine s_ne ?_
 refine zf (zd ?_)
 refine zn F3 ?_ ?_ <;> intro C4 F4
 refine zb (za ?_)
 refine s_as ?_
 refine zf (zd (zh (zg (zm ?_))))
 cases F4
 exact zk [] [] Tryz.results53
 refine zi (zd (zb (za ?_)))
 refine s_as ?_
 refine zf (zd (zh (zm ?_)))
 cases F4
 exact zk [] [] Tryz.results53
def m_laws_eqBindS_AC (fuel : Nat) : Prop := ∀ (x1 : (List Bind)) (x2 : (List Bind)) (r : Bool), ze7 fuel x1 x2 = some r → AC Tryz.prog 15 [.t (.sl (x1.map Bind.row)), .t (.sl (x2.map Bind.row))] noOb (.t (.sc (.bool r))) noOb
theorem m_laws_eqBindS_ok (fuel : Nat) : m_laws_eqBindS_AC fuel := by
 intro x1 x2 r F0
 unfold ze7 at F0
 refine AC_i [.t (.sc (.bool r))] Tryz.func15 rfl Tryz.ntmps15 ?_
 intro C hC
 refine zb (za ?_)
 refine s_as ?_
 refine zf (zd (zb (zb (za ?_))))
 refine s_mv ?_
 refine zE yU33 ?_
 refine s_mv ?_
 refine zE yU33 ?_
 refine s_ne ?_
 refine zf (zd ?_)
 refine zn F0 ?_ ?_ <;> intro C1 F1
 refine zb (za ?_)
 refine s_as ?_
 refine zf (zd (zh (zg (zm ?_))))
 cases F1
 exact zk [] [] Tryz.results15
 refine zi (zd (zb (zb (za ?_))))
 refine s_as ?_
 refine zf (zd (zl ?_))
 refine zap (β := Int) [4, 5, 11, 12, 13, 14, 15, 16, 17, 18, 19, 20, 21, 22, 23, 24, 25, 26] [] [] (fun a => [(5, .t (.sc (.int .i64 a.2)))]) (fun a => []) (fun a => a.1 ≤ fuel ∧ zcm a.1 x1 x2 a.2 = some r ∧ 0 ≤ a.2) (fuel, 0) ⟨Nat.le_refl _, F1, by simp⟩ ?_
 clear F1
 rintro ⟨fu, g2⟩ ⟨hl3, F2, hn_g2⟩
 dsimp only at hl3 F2 hn_g2 ⊢
 obtain _ | fu := fu
 · rw [zcm] at F2; cases F2
 rw [zcm] at F2
 refine zb (zb (za ?_))
 refine s_mv ?_
 refine s_mv ?_
 refine zE yU33 ?_
 refine s_lt ?_
 refine zf (zd ?_)
 refine zn F2 ?_ ?_ <;> intro C4 F3
 refine zG 0 (fun B5 => ?_)
 refine zi (zd (zb (zl (zb ?_))))
 refine zaf yMix (by kernel_rfl) ?_
 refine s_mv ?_
 refine s_mv ?_
 obtain ⟨v6, V6, F4⟩ := zc F3
 refine zL Bind.row V6 (Bind.row_eq _) yE33 ?_
 refine zag yA83 yS83 ?_
 refine s_mv ?_
 refine s_mv ?_
 obtain ⟨v7, V7, F5⟩ := zc F4
 refine zL Bind.row V7 (Bind.row_eq _) yE33 ?_
 refine zag yA83 yS83 ?_
 obtain ⟨v8, V8, F6⟩ := zc F5
 refine zz [] (m_laws_eqBind_ok fu _ _ _ V8) ?_
 refine zbC ?_
 refine zao (by kernel_rfl) ?_
 refine zd ?_
 refine zn F6 ?_ ?_ <;> intro C9 F7
 refine zb (za ?_)
 refine s_as ?_
 refine zf (zd (zh (zj (zg (zu (zj (zg (zm ?_))))))))
 cases F7
 exact zk [] [] Tryz.results15
 refine zi (z6 (zd (za ?_)))
 refine s_mv ?_
 refine zI (zak C4 B5 hn_g2) ?_
 refine s_as ?_
 refine zf ?_
 exact s_rn (fu, (g2 + 1)) ⟨by first | omega | (dsimp only; omega), F7, by first | omega | (dsimp only; omega)⟩
 refine zB (zw (zr (zx (zd (zb (za ?_))))))
 refine s_as ?_
 refine zf (zd (zh (zm ?_)))
 cases F3
 exact zk [] [] Tryz.results15
def m_laws_eqMacroS_AC (fuel : Nat) : Prop := ∀ (x1 : (List zq)) (x2 : (List zq)) (r : Bool), zeC fuel x1 x2 = some r → AC Tryz.prog 67 [.t (.sl (x1.map zq.row)), .t (.sl (x2.map zq.row))] noOb (.t (.sc (.bool r))) noOb
theorem m_laws_eqMacroS_ok (fuel : Nat) : m_laws_eqMacroS_AC fuel := by
 intro x1 x2 r F0
 unfold zeC at F0
 refine AC_i [.t (.sc (.bool r))] Tryz.func67 rfl Tryz.ntmps67 ?_
 intro C hC
 refine zb (za ?_)
 refine s_as ?_
 refine zf (zd (zb (zb (za ?_))))
 refine s_mv ?_
 refine zE yU58 ?_
 refine s_mv ?_
 refine zE yU58 ?_
 refine s_ne ?_
 refine zf (zd ?_)
 refine zn F0 ?_ ?_ <;> intro C1 F1
 refine zb (za ?_)
 refine s_as ?_
 refine zf (zd (zh (zg (zm ?_))))
 cases F1
 exact zk [] [] Tryz.results67
 refine zi (zd (zb (zb (za ?_))))
 refine s_as ?_
 refine zf (zd (zl ?_))
 refine zap (β := Int) [4, 5, 11, 12, 13, 14, 15, 16, 17, 18, 19, 20, 21, 22, 23, 24, 25, 26] [] [] (fun a => [(5, .t (.sc (.int .i64 a.2)))]) (fun a => []) (fun a => a.1 ≤ fuel ∧ zb7 a.1 x1 x2 a.2 = some r ∧ 0 ≤ a.2) (fuel, 0) ⟨Nat.le_refl _, F1, by simp⟩ ?_
 clear F1
 rintro ⟨fu, g2⟩ ⟨hl3, F2, hn_g2⟩
 dsimp only at hl3 F2 hn_g2 ⊢
 obtain _ | fu := fu
 · rw [zb7] at F2; cases F2
 rw [zb7] at F2
 refine zb (zb (za ?_))
 refine s_mv ?_
 refine s_mv ?_
 refine zE yU58 ?_
 refine s_lt ?_
 refine zf (zd ?_)
 refine zn F2 ?_ ?_ <;> intro C4 F3
 refine zG 0 (fun B5 => ?_)
 refine zi (zd (zb (zl (zb ?_))))
 refine zaf yMix (by kernel_rfl) ?_
 refine s_mv ?_
 refine s_mv ?_
 obtain ⟨v6, V6, F4⟩ := zc F3
 refine zL zq.row V6 (zq.row_eq _) yE58 ?_
 refine zag yA55 yS55 ?_
 refine s_mv ?_
 refine s_mv ?_
 obtain ⟨v7, V7, F5⟩ := zc F4
 refine zL zq.row V7 (zq.row_eq _) yE58 ?_
 refine zag yA55 yS55 ?_
 obtain ⟨v8, V8, F6⟩ := zc F5
 refine zz [] (zeQ fu _ _ _ V8) ?_
 refine zbC ?_
 refine zao (by kernel_rfl) ?_
 refine zd ?_
 refine zn F6 ?_ ?_ <;> intro C9 F7
 refine zb (za ?_)
 refine s_as ?_
 refine zf (zd (zh (zj (zg (zu (zj (zg (zm ?_))))))))
 cases F7
 exact zk [] [] Tryz.results67
 refine zi (z6 (zd (za ?_)))
 refine s_mv ?_
 refine zI (zak C4 B5 hn_g2) ?_
 refine s_as ?_
 refine zf ?_
 exact s_rn (fu, (g2 + 1)) ⟨by first | omega | (dsimp only; omega), F7, by first | omega | (dsimp only; omega)⟩
 refine zB (zw (zr (zx (zd (zb (za ?_))))))
 refine s_as ?_
 refine zf (zd (zh (zm ?_)))
 cases F3
 exact zk [] [] Tryz.results67
def m_laws_eqExpansion_AC (fuel : Nat) : Prop := ∀ (x1 : zv) (x2 : zv) (r : Bool), zdo fuel x1 x2 = some r → AC Tryz.prog 28 [.ag [.t (.sl (x1.binds.map Bind.row)), .t (.sl (x1.macros.map zq.row)), .t (.sc (.int .i64 x1.scope)), .t (.sc (.int .i64 x1.id)), .t (.sc (.int .i64 x1.steps))], .ag [.t (.sl (x2.binds.map Bind.row)), .t (.sl (x2.macros.map zq.row)), .t (.sc (.int .i64 x2.scope)), .t (.sc (.int .i64 x2.id)), .t (.sc (.int .i64 x2.steps))]] noOb (.t (.sc (.bool r))) noOb
theorem m_laws_eqExpansion_ok (fuel : Nat) : m_laws_eqExpansion_AC fuel := by
 intro x1 x2 r F0
 unfold zdo at F0
 refine AC_i [.t (.sc (.bool r))] Tryz.func28 rfl Tryz.ntmps28 ?_
 intro C hC
 refine zb (za ?_)
 refine zaF ?_
 refine zaF ?_
 refine s_as ?_
 refine zf (zd (zb (zb (za ?_))))
 refine s_fa yF60_0 ?_
 refine zp yA33 ?_
 refine s_fa yF60_0 ?_
 refine zp yA33 ?_
 obtain ⟨v1, V1, F1⟩ := zc F0
 refine zz [] (m_laws_eqBindS_ok fuel _ _ _ V1) ?_
 refine zbC ?_
 refine zf (zd ?_)
 refine zn F1 ?_ ?_ <;> intro C2 F2
 refine zb (za ?_)
 refine s_as ?_
 refine zf (zd (zh (zg (zm ?_))))
 cases F2
 exact zk [] [] Tryz.results28
 refine zi (zd (zb (zb (za ?_))))
 refine s_fa zd4 ?_
 refine zp yA58 ?_
 refine s_fa zd4 ?_
 refine zp yA58 ?_
 obtain ⟨v3, V3, F3⟩ := zc F2
 refine zz [] (m_laws_eqMacroS_ok fuel _ _ _ V3) ?_
 refine zbC ?_
 refine zf (zd ?_)
 refine zn F3 ?_ ?_ <;> intro C4 F4
 refine zb (za ?_)
 refine s_as ?_
 refine zf (zd (zh (zg (zm ?_))))
 cases F4
 exact zk [] [] Tryz.results28
 refine zi (zd (zb (zb (za ?_))))
 refine s_fa yF60_2 ?_
 refine zp yA3 ?_
 refine s_fa yF60_2 ?_
 refine zp yA3 ?_
 refine s_ne ?_
 refine zf (zd ?_)
 refine zn F4 ?_ ?_ <;> intro C5 F5
 refine zb (za ?_)
 refine s_as ?_
 refine zf (zd (zh (zg (zm ?_))))
 cases F5
 exact zk [] [] Tryz.results28
 refine zi (zd (zb (zb (za ?_))))
 refine s_fa yF60_3 ?_
 refine zp yA3 ?_
 refine s_fa yF60_3 ?_
 refine zp yA3 ?_
 refine s_ne ?_
 refine zf (zd ?_)
 refine zn F5 ?_ ?_ <;> intro C6 F6
 refine zb (za ?_)
 refine s_as ?_
 refine zf (zd (zh (zg (zm ?_))))
 cases F6
 exact zk [] [] Tryz.results28
 refine zi (zd (zb (zb (za ?_))))
 refine s_fa yF60_4 ?_
 refine zp yA3 ?_
 refine s_fa yF60_4 ?_
 refine zp yA3 ?_
 refine s_ne ?_
 refine zf (zd ?_)
 refine zn F6 ?_ ?_ <;> intro C7 F7
 refine zb (za ?_)
 refine s_as ?_
 refine zf (zd (zh (zg (zm ?_))))
 cases F7
 exact zk [] [] Tryz.results28
 refine zi (zd (zb (za ?_)))
 refine s_as ?_
 refine zf (zd (zh (zm ?_)))
 cases F7
 exact zk [] [] Tryz.results28
def m_laws_markText_D_AC (fuel : Nat) : Prop := ∀ (x1 : Int) (r : ByteArray), za0 fuel x1 = some r → AC Tryz.prog 55 [.t (.sc (.int .i64 x1))] noOb (.t (.sc (.str r))) noOb
theorem zbI (fuel : Nat) : m_laws_markText_D_AC fuel := by
 intro x1 r F0
 unfold za0 at F0
 refine AC_i [.t (.sc (.str r))] Tryz.func55 rfl Tryz.ntmps55 ?_
 intro C hC
 refine zb (za ?_)
 refine s_as ?_
 refine zf (zd (zb (zb (za ?_))))
 refine s_mv ?_
 refine s_le ?_
 refine zf (zd ?_)
 refine zn F0 ?_ ?_ <;> intro C1 F1
 refine zb (za ?_)
 refine s_as ?_
 refine zf (zd (zh (zg (zm ?_))))
 cases F1
 exact zk [] [] Tryz.results55
 refine zi (zd (zb (za ?_)))
 refine s_as ?_
 refine zf (zd (zb (zl ?_)))
 refine zap (β := Int × ByteArray) [0, 3, 6, 7, 8, 9, 10, 11, 12, 13, 14, 15, 16, 17] [] [12] (fun a => [(0, .t (.sc (.int .i64 a.2.1))), (3, .t (.sc (.str a.2.2)))]) (fun a => []) (fun a => a.1 ≤ fuel ∧ zbh a.1  a.2.1 a.2.2 = some r) (fuel, x1, (⟨#[]⟩ : ByteArray)) ⟨Nat.le_refl _, F1⟩ ?_
 clear F1
 rintro ⟨fu, g2, g3⟩ ⟨hl4, F2⟩
 dsimp only at hl4 F2 ⊢
 obtain _ | fu := fu
 · rw [zbh] at F2; cases F2
 rw [zbh] at F2
 refine zb (zb (za ?_))
 refine s_mv ?_
 refine s_gt ?_
 refine zf (zd ?_)
 refine zn F2 ?_ ?_ <;> intro C5 F3
 refine zi (zd (zl (zb (za ?_))))
 refine s_mv ?_
 refine s_rem ?_
 refine zI rfl ?_
 refine s_int yU3 yU5 rfl ?_
 refine s_bs rB [(w8 (w64 (48 + (g2.tmod 10))))] yP131 yR5 ?_
 refine s_bst (l := [(w8 (w64 (48 + (g2.tmod 10))))]) yU131 yU9 yE131 yU5 ?_
 refine s_mv ?_
 obtain ⟨v6, V6, F4⟩ := zc F3
 refine s_cat V6 ?_
 refine s_as ?_
 refine zf (zd (za ?_))
 refine s_mv ?_
 refine s_quo rfl ?_
 refine s_as ?_
 refine zf (z6 ?_)
 exact s_rn (fu, (w64 (g2.tdiv 10)), v6) ⟨by first | omega | (dsimp only; omega), F4⟩
 refine zB (zw (zr (zx (zd (zb (za ?_))))))
 refine s_mv ?_
 obtain ⟨v7, V7, F4⟩ := zc F3
 refine s_cat V7 ?_
 refine s_as ?_
 refine zf (zd (zh (zm ?_)))
 cases F4
 exact zk [] [] Tryz.results55
def m_laws_markIntS_D_AC (fuel : Nat) : Prop := ∀ (x1 : (List Int)) (x2 : Int) (r : (Int × (List Int))), zcu fuel x1 x2 = some r → AC Tryz.prog 56 [.ar 9300, .t (.sc (.int .i64 x2))] (objs [(9300, .arr (x1.map rI) 3 true)]) (.t (.sc (.int .i64 r.1))) (objs [(9300, .arr (r.2.map rI) 3 true)])
theorem zdD (fuel : Nat) : m_laws_markIntS_D_AC fuel := by
 intro x1 x2 r F0
 unfold zcu at F0
 refine AC_i [.t (.sc (.int .i64 r.1))] Tryz.func56 rfl Tryz.ntmps56 ?_
 intro C hC
 refine zb (za ?_)
 refine s_as ?_
 refine zf (zd (zb (zb (za ?_))))
 refine s_as ?_
 refine zf (zd (zl ?_))
 refine zap (β := Int × Int × (List Int)) [1, 5, 6, 7, 8, 9, 10, 11, 12, 13, 14, 15, 16, 17] [9300] [] (fun a => [(1, .t (.sc (.int .i64 a.2.1))), (5, .t (.sc (.int .i64 a.2.2.1)))]) (fun a => [(9300, .arr (a.2.2.2.map rI) 3 true)]) (fun a => a.1 ≤ fuel ∧ zbM a.1  a.2.1 a.2.2.1 a.2.2.2 = some r ∧ 0 ≤ a.2.2.1) (fuel, x2, 0, x1) ⟨Nat.le_refl _, F0, by simp⟩ ?_
 clear F0
 rintro ⟨fu, g1, g2, g3⟩ ⟨hl4, F1, hn_g2⟩
 dsimp only at hl4 F1 hn_g2 ⊢
 obtain _ | fu := fu
 · rw [zbM] at F1; cases F1
 rw [zbM] at F1
 refine zb (zb (za ?_))
 refine s_mv ?_
 refine s_mv ?_
 refine s_lenA yU23 ?_
 refine s_lt ?_
 refine zf (zd ?_)
 refine zn F1 ?_ ?_ <;> intro C5 F2
 refine awp_lenA 0 9300 (fun B6 => ?_)
 refine zi (zd (zb (zl (zb (za ?_)))))
 iterate 3 refine s_mv ?_
 obtain ⟨v7, V7, F3⟩ := zc F2
 refine s_ixA rI V7 yE23 ?_
 refine s_stA rI g1 V7 rfl rfl yS3 yS3 ?_
 refine zf (zd (za ?_))
 refine s_mv ?_
 refine zI rfl ?_
 refine s_as ?_
 refine zf (z6 (zd (za ?_)))
 refine s_mv ?_
 refine zI (zak C5 B6 hn_g2) ?_
 refine s_as ?_
 refine zf ?_
 exact s_rn (fu, (w64 (g1 + 1)), (g2 + 1), (g3.set g2.toNat g1)) ⟨by first | omega | (dsimp only; omega), F3, by first | omega | (dsimp only; omega)⟩
 refine zB (zw (zr (zx (zd (zb (za ?_))))))
 refine s_mv ?_
 refine s_as ?_
 refine zf (zd (zh (zm ?_)))
 cases F2
 exact zk _ [] Tryz.results56
def m_laws_markBindS_D_AC (fuel : Nat) : Prop := ∀ (x1 : (List Bind)) (x2 : Int) (r : (Int × (List Bind))), zec fuel x1 x2 = some r → AC Tryz.prog 18 [.ar 9300, .t (.sc (.int .i64 x2))] (objs [(9300, .dar (x1.map (Bind.rowD 3)) 83)]) (.t (.sc (.int .i64 r.1))) (objs [(9300, .dar (r.2.map (Bind.rowD 3)) 83)])
theorem m_laws_markBindS_D_ok (fuel : Nat) : m_laws_markBindS_D_AC fuel := by
 intro x1 x2 r F0
 unfold zec at F0
 refine AC_i [.t (.sc (.int .i64 r.1))] Tryz.func18 rfl Tryz.ntmps18 ?_
 intro C hC
 refine zb (za ?_)
 refine s_as ?_
 refine zf (zd (zb (zb (za ?_))))
 refine s_as ?_
 refine zf (zd (zl ?_))
 refine zap (β := Int × Int × (List Bind)) [1, 5, 6, 7, 8, 9, 10, 11, 12, 13, 14, 15, 16, 17, 18, 19, 20, 21, 22, 23, 24, 25, 26, 27, 28, 29, 30, 31, 32, 33] [9300] [24] (fun a => [(1, .t (.sc (.int .i64 a.2.1))), (5, .t (.sc (.int .i64 a.2.2.1)))]) (fun a => [(9300, .dar (a.2.2.2.map (Bind.rowD 3)) 83)]) (fun a => a.1 ≤ fuel ∧ zaZ a.1  a.2.1 a.2.2.1 a.2.2.2 = some r) (fuel, x2, 0, x1) ⟨Nat.le_refl _, F0⟩ ?_
 clear F0
 rintro ⟨fu, g1, g2, g3⟩ ⟨hl4, F1⟩
 dsimp only at hl4 F1 ⊢
 obtain _ | fu := fu
 · rw [zaZ] at F1; cases F1
 rw [zaZ] at F1
 refine zb (zb (za ?_))
 refine s_mv ?_
 refine s_mv ?_
 refine s_lenD yU33 ?_
 refine s_lt ?_
 refine zf (zd ?_)
 refine zn F1 ?_ ?_ <;> intro C5 F2
 refine zi (zd (zb (zl (zb (za ?_)))))
 iterate 3 refine s_mv ?_
 obtain ⟨v6, V6, F3⟩ := zc F2
 refine zz [] (zbI fu _ _ V6) ?_
 obtain ⟨v7, V7, F4⟩ := zc F3
 refine zgf (Bind.rowD 3) V7 yE33 ?_
 refine s_fa yF83_0 ?_
 refine s_stC (q := 9300) (off := 0) (u := .sc (.str v6)) (Bind.rowD 3) (Bind.mk v6 v7.scopes v7.id) V7 (by rw [(Bind.rowDE _ _), (Bind.rowDE _ _)]; rfl) yS9 yS83 (hw := by rw [(Bind.rowDE _ _)]; rfl) ?_
 refine zf (zd (zb (za ?_)))
 refine s_mv ?_
 refine zI rfl ?_
 refine s_as ?_
 refine zf (zd (zb (za ?_)))
 refine s_mv ?_
 refine s_mv ?_
 obtain ⟨v8, V8, F5⟩ := zc F4
 refine zgf (Bind.rowD 3) V8 yE33 ?_
 refine s_fa yF83_1 ?_
 refine s_ldHA (Bind.rowD 3) rI v8.scopes plain_rI V8 yA23 yS83 (hw := by rw [(Bind.rowDE _ _)]; rfl) ?_
 refine s_mv ?_
 obtain ⟨v9, V9, F6⟩ := zc F5
 refine zQ [(9300, 24)] [] _ _ (zdD fu _ _ _ V9) ?_
 refine s_as ?_
 refine zf (zd ?_)
 refine awp_jsA 9300 24 [.sc (.str v8.name), .ow 3 (v9.2.map rI), .sc (.int .i64 v8.id)] V8 (row := (Bind.rowD 3)) (hj := by rw [(Bind.rowDE _ _)]; rfl) (hf := by rw [(Bind.rowDE _ _)]; rfl) ?_
 refine zfW 9300 (row := (Bind.rowD 3)) (fs := [.sc (.str v8.name), .ow 3 (v9.2.map rI), .sc (.int .i64 v8.id)]) (Bind.mk v8.name v9.2 v8.id) (Bind.rowDE _ _) ?_
 refine zb (za ?_)
 iterate 3 refine s_mv ?_
 obtain ⟨v10, V10, F7⟩ := zc F6
 refine zgf (Bind.rowD 3) V10 yE33 ?_
 refine s_fa zg7 ?_
 refine s_stC (q := 9300) (off := 2) (u := .sc (.int .i64 v9.1)) (Bind.rowD 3) (Bind.mk v10.name v10.scopes v9.1) V10 (by rw [(Bind.rowDE _ _), (Bind.rowDE _ _)]; rfl) yS3 yS83 (hw := by rw [(Bind.rowDE _ _)]; rfl) ?_
 refine zf (zd (za ?_))
 refine s_mv ?_
 refine zI rfl ?_
 refine s_as ?_
 refine zf (z6 (zd (za ?_)))
 refine s_mv ?_
 refine zI rfl ?_
 refine s_as ?_
 refine zf ?_
 exact s_rn (fu, (w64 (v9.1 + 1)), (w64 (g2 + 1)), (((g3.set g2.toNat (Bind.mk v6 v7.scopes v7.id)).set g2.toNat (Bind.mk v8.name v9.2 v8.id)).set g2.toNat (Bind.mk v10.name v10.scopes v9.1))) ⟨by first | omega | (dsimp only; omega), F7⟩
 refine zB (zw (zr (zx (zd (zb (za ?_))))))
 refine s_mv ?_
 refine s_as ?_
 refine zf (zd (zh (zm ?_)))
 cases F2
 exact zk _ [] Tryz.results18
end Go.Abs
