/- A part of the proof: what the functions that the law calls answer, as pure values. -/
import Derived.Test.YtcebadpiebamdaaGreatK749896bffbad
import Derived.Test.YtcebadpiebamdaaGreatK423f84c32d54
import Derived.Test.YtcebadpiebamdaaGreatKf8de2f3a577a
set_option linter.unusedSimpArgs false
set_option linter.unusedVariables false
set_option maxRecDepth 100000
set_option maxHeartbeats 4000000
namespace Go.Abs
open Go.Proofs
def m_impl_named_AC (fuel : Nat) : Prop := ∀ (x1 : Form) (x2 : ByteArray) (r : Bool), zce fuel x1 x2 = some r → AC Tryz.prog 99 [.ag [.t (.sc (.int .i64 x1.kind)), .t (.sc (.str x1.name)), .t (.sc (.int .i64 x1.n)), .t (.sl (x1.scopes.map rI)), .t (.sl (x1.kids.map Form.row))], .t (.sc (.str x2))] noOb (.t (.sc (.bool r))) noOb
theorem zb9 (fuel : Nat) : m_impl_named_AC fuel := by
 intro x1 x2 r F0
 unfold zce at F0
 refine AC_i [.t (.sc (.bool r))] Tryz.func99 rfl Tryz.ntmps99 ?_
 intro C hC
 refine zb (za ?_)
 refine zaF ?_
 refine s_as ?_
 refine zf (zd (zb (za ?_)))
 refine s_fa zc8 ?_
 refine zp yA3 ?_
 refine s_eq ?_
 refine s_mv ?_
 refine zy _ 8 F0 ?_ ?_ <;> intro C1 F1
 refine s_fa zcH ?_
 refine zp yA9 ?_
 refine s_mv ?_
 refine s_eqS ?_
 refine zC ?_
 refine s_as ?_
 refine zf (zd (zh (zm ?_)))
 cases F1
 exact zk [] [] Tryz.results99
 iterate 4 refine r_no rfl ?_
 refine zF ?_
 refine s_as ?_
 refine zf (zd (zh (zm ?_)))
 cases F1
 exact zk [] [] Tryz.results99
def m_impl_dotsAt_1_AC (fuel : Nat) : Prop := ∀ (x1 : Form) (r : Bool), zeE fuel x1 = some r → AC Tryz.prog 140 [.ag [.t (.sc (.int .i64 x1.kind)), .t (.sc (.str x1.name)), .t (.sc (.int .i64 x1.n)), .t (.sl (x1.scopes.map rI)), .t (.sl (x1.kids.map Form.row))]] noOb (.t (.sc (.bool r))) noOb
theorem m_impl_dotsAt_1_ok (fuel : Nat) : m_impl_dotsAt_1_AC fuel := by
 intro x1 r F0
 unfold zeE at F0
 refine AC_i [.t (.sc (.bool r))] Tryz.func140 rfl Tryz.ntmps140 ?_
 intro C hC
 refine zb (za ?_)
 refine zaF ?_
 refine s_as ?_
 refine zf (zd (zb (za ?_)))
 refine zad yA37 yS37 ?_
 obtain ⟨v1, V1, F1⟩ := zc F0
 refine zz [] (zb9 fuel _ _ _ V1) ?_
 refine s_as ?_
 refine zf (zd (zh (zm ?_)))
 cases F1
 exact zk [] [] Tryz.results140
def zfm (fuel : Nat) : Prop := ∀ (x1 : (List Form)) (r : Int), zbk fuel x1 = some r → AC Tryz.prog 139 [.t (.sl (x1.map Form.row)), .fn 140 []] noOb (.t (.sc (.int .i64 r))) noOb
theorem zfl (fuel : Nat) : zfm fuel := by
 intro x1 r F0
 unfold zbk at F0
 refine AC_i [.t (.sc (.int .i64 r))] Tryz.func139 rfl Tryz.ntmps139 ?_
 intro C hC
 refine zb (za ?_)
 refine s_as ?_
 refine zf (zd (zb (zb (za ?_))))
 refine s_mv ?_
 refine zE yU35 ?_
 refine s_mv ?_
 refine zf (zd (zl ?_))
 refine zap (β := Int) [4, 5, 8, 9, 10, 11, 12, 13, 14, 15, 16, 17, 18] [] [] (fun a => [(8, .t (.sc (.int .i64 a.2)))]) (fun a => []) (fun a => a.1 ≤ fuel ∧ zV a.1 x1 a.2 = some r ∧ 0 ≤ a.2) (fuel, 0) ⟨Nat.le_refl _, F0, by simp⟩ ?_
 clear F0
 rintro ⟨fu, g1⟩ ⟨hl2, F1, hn_g1⟩
 dsimp only at hl2 F1 hn_g1 ⊢
 obtain _ | fu := fu
 · rw [zV] at F1; cases F1
 rw [zV] at F1
 refine zb (za ?_)
 refine s_lt ?_
 refine zf (zd (zb ?_))
 refine zn F1 ?_ ?_ <;> intro C3 F2
 refine zG 0 (fun B4 => ?_)
 refine zi (zd (zb (zl (zb (za ?_)))))
 refine s_mv ?_
 refine s_as ?_
 refine zf (zd (zb (za ?_)))
 iterate 3 refine s_mv ?_
 obtain ⟨v5, V5, F3⟩ := zc F2
 refine zL Form.row V5 (Form.row_eq _) yE35 ?_
 refine zag yA37 yS37 ?_
 obtain ⟨v6, V6, F4⟩ := zc F3
 refine zz [] (m_impl_dotsAt_1_ok fu _ _ V6) ?_
 refine zf (zd ?_)
 refine zn F4 ?_ ?_ <;> intro C7 F5
 refine zb (za ?_)
 refine s_mv ?_
 refine s_as ?_
 refine zf (zd (zh (zj (zg (zu (zj (zg (zm ?_))))))))
 cases F5
 exact zk [] [] Tryz.results139
 refine zi (z6 (zd (za ?_)))
 refine zI (zak C3 B4 hn_g1) ?_
 refine s_mv ?_
 refine zf ?_
 exact s_rn (fu, (g1 + 1)) ⟨by first | omega | (dsimp only; omega), F5, by first | omega | (dsimp only; omega)⟩
 refine zB (zw (zr (zx (zd (zb (za ?_))))))
 refine s_as ?_
 refine zf (zd (zh (zm ?_)))
 cases F2
 exact zk [] [] Tryz.results139
def m_impl_dotsAt_AC (fuel : Nat) : Prop := ∀ (x1 : (List Form)) (r : Int), zfJ fuel x1 = some r → AC Tryz.prog 108 [.t (.sl (x1.map Form.row))] noOb (.t (.sc (.int .i64 r))) noOb
theorem m_impl_dotsAt_ok (fuel : Nat) : m_impl_dotsAt_AC fuel := by
 intro x1 r F0
 unfold zfJ at F0
 refine AC_i [.t (.sc (.int .i64 r))] Tryz.func108 rfl Tryz.ntmps108 ?_
 intro C hC
 refine zb (za ?_)
 refine s_as ?_
 refine zf (zd (zb (za ?_)))
 refine s_mv ?_
 obtain ⟨v1, V1, F1⟩ := zc F0
 refine zz [] (zfl fuel _ _ V1) ?_
 refine s_as ?_
 refine zf (zd (zh (zm ?_)))
 cases F1
 exact zk [] [] Tryz.results108
def zff (fuel : Nat) : Prop := ∀ (x1 : Form) (x2 : Bool) (r : Bool), zcP fuel x1 x2 = some r → AC Tryz.prog 100 [.ag [.t (.sc (.int .i64 x1.kind)), .t (.sc (.str x1.name)), .t (.sc (.int .i64 x1.n)), .t (.sl (x1.scopes.map rI)), .t (.sl (x1.kids.map Form.row))], .t (.sc (.bool x2))] noOb (.t (.sc (.bool r))) noOb
theorem m_impl_dotsOk_st (fu : Nat) (ih_m_impl_dotsOk : ∀ k, k ≤ fu → zff k) : zff (fu + 1) := by
 intro x1 x2 r F0
 rw [zcP] at F0
 refine AC_i [.t (.sc (.bool r))] Tryz.func100 rfl Tryz.ntmps100 ?_
 intro C hC
 refine zb (za ?_)
 refine zaF ?_
 refine s_as ?_
 refine zf (zd (zb (zb (za ?_))))
 refine s_fa zZ ?_
 refine zp yA35 ?_
 refine zE yU35 ?_
 refine s_mv ?_
 refine zf (zd (zl ?_))
 refine zap (β := Int) [4, 5, 6, 10, 11, 12, 13, 14, 15, 16, 17, 18, 19, 20, 21, 22, 23, 24, 25, 26, 27, 28, 29, 30, 31, 32, 33, 34, 35, 36, 37, 38, 39, 40, 41, 42, 43] [] [6] (fun a => [(10, .t (.sc (.int .i64 a.2)))]) (fun a => []) (fun a => a.1 ≤ fu ∧ zbB a.1 x1 x2 a.2 = some r ∧ 0 ≤ a.2) (fu, 0) ⟨Nat.le_refl _, F0, by simp⟩ ?_
 clear F0
 rintro ⟨fu, g1⟩ ⟨hl2, F1, hn_g1⟩
 dsimp only at hl2 F1 hn_g1 ⊢
 obtain _ | fu := fu
 · rw [zbB] at F1; cases F1
 rw [zbB] at F1
 refine zb (za ?_)
 refine s_lt ?_
 refine zf (zd (zb ?_))
 refine zn F1 ?_ ?_ <;> intro C3 F2
 refine zG 8 (fun B4 => ?_)
 refine zi (zd (zb (zl (zb (za ?_)))))
 refine s_mv ?_
 obtain ⟨v5, V5, F3⟩ := zc F2
 refine zL Form.row V5 (Form.row_eq _) yE35 ?_
 refine zag yA37 yS37 ?_
 refine zU yZ37 ?_
 refine s_as ?_
 refine zb4 yS37 ?_
 refine zf (zd (zb (za ?_)))
 refine zad yA37 yS37 ?_
 obtain ⟨v6, V6, F4⟩ := zc F3
 refine zz [] (zb9 fu _ _ _ V6) ?_
 refine zf (zd ?_)
 refine zn F4 ?_ ?_ <;> intro C7 F5
 refine zb (za ?_)
 refine s_mv ?_
 refine s_eq ?_
 refine s_mv ?_
 refine zy _ 19 F5 ?_ ?_ <;> intro C8 F6
 iterate 7 refine r_no rfl ?_
 refine zC ?_
 refine s_mv ?_
 iterate 9 refine r_no rfl ?_
 refine zC ?_
 refine zf (zd (zM rfl (zb (za ?_))))
 refine s_as ?_
 refine zf (zd (zh (zj (zg (zu (zj (zg (zm ?_))))))))
 cases F6
 exact zk [] [] Tryz.results100
 refine s_fa zZ ?_
 refine zp yA35 ?_
 refine s_mv ?_
 refine s_sub rfl ?_
 obtain ⟨v9, V9, F7⟩ := zc F6
 refine zL Form.row V9 (Form.row_eq _) yE35 ?_
 refine zag yA37 yS37 ?_
 obtain ⟨v10, V10, F8⟩ := zc F7
 refine zz [] (zb9 fu _ _ _ V10) ?_
 refine zF ?_
 refine s_mv ?_
 refine zy _ 28 F8 ?_ ?_ <;> intro C11 F9
 iterate 9 refine r_no rfl ?_
 refine zC ?_
 refine zf (zd (zM rfl (zb (za ?_))))
 refine s_as ?_
 refine zf (zd (zh (zj (zg (zu (zj (zg (zm ?_))))))))
 cases F9
 exact zk [] [] Tryz.results100
 refine s_mv ?_
 refine s_mv ?_
 refine zy _ 30 F9 ?_ ?_ <;> intro C12 F10
 refine s_fa zZ ?_
 refine zp yA35 ?_
 refine s_mv ?_
 obtain ⟨v13, V13, F11⟩ := zc F10
 refine s_sl01 Form.row (fun y => Form.row_len y) V13 yU35 yE35 ?_
 obtain ⟨v14, V14, F12⟩ := zc F11
 refine zz [] (m_impl_dotsAt_ok fu _ _ V14) ?_
 refine s_ge ?_
 refine zC ?_
 refine zF ?_
 refine zf (zd ?_)
 refine zn F12 ?_ ?_ <;> intro C15 F13
 refine zb (za ?_)
 refine s_as ?_
 refine zf (zd (zh (zj (zg (zu (zj (zg (zm ?_))))))))
 cases F13
 exact zk [] [] Tryz.results100
 refine zi (z6 (zd (za ?_)))
 refine zI (zak C3 B4 hn_g1) ?_
 refine s_mv ?_
 refine zf ?_
 exact s_rn (fu, (g1 + 1)) ⟨by first | omega | (dsimp only; omega), F13, by first | omega | (dsimp only; omega)⟩
 iterate 6 refine r_no rfl ?_
 refine zF ?_
 refine zF ?_
 refine zf (zd (zci rfl (zi (z6 (zd (za ?_))))))
 refine zI (zak C3 B4 hn_g1) ?_
 refine s_mv ?_
 refine zf ?_
 exact s_rn (fu, (g1 + 1)) ⟨by first | omega | (dsimp only; omega), F10, by first | omega | (dsimp only; omega)⟩
 refine zb (za ?_)
 refine zad yA37 yS37 ?_
 refine s_mv ?_
 obtain ⟨v16, V16, F6⟩ := zc F5
 refine zz [] (ih_m_impl_dotsOk fu (by omega) _ _ _ V16) ?_
 refine zbC ?_
 refine zf (zd ?_)
 refine zn F6 ?_ ?_ <;> intro C17 F7
 refine zb (za ?_)
 refine s_as ?_
 refine zf (zd (zh (zj (zg (zu (zj (zg (zm ?_))))))))
 cases F7
 exact zk [] [] Tryz.results100
 refine zi (z6 (zd (za ?_)))
 refine zI (zak C3 B4 hn_g1) ?_
 refine s_mv ?_
 refine zf ?_
 exact s_rn (fu, (g1 + 1)) ⟨by first | omega | (dsimp only; omega), F7, by first | omega | (dsimp only; omega)⟩
 refine zB (zw (zr (zx (zd (zb (za ?_))))))
 refine s_as ?_
 refine zf (zd (zh (zm ?_)))
 cases F2
 exact zk [] [] Tryz.results100
theorem m_impl_dotsOk_all (fuel : Nat) : zff fuel := by
 induction fuel using Nat.strongRecOn with
 | _ N ih =>
   cases N with
   | zero => exact (by intro x1 x2 r h; rw [zcP] at h; cases h)
   | succ fu => exact m_impl_dotsOk_st fu (fun k hk => (ih k (by omega)))
theorem m_impl_dotsOk_ok (fuel : Nat) : zff fuel := (m_impl_dotsOk_all fuel)
def m_impl_isVar_AC (fuel : Nat) : Prop := ∀ (x1 : Form) (x2 : (List Form)) (r : Bool), zf8 fuel x1 x2 = some r → AC Tryz.prog 159 [.ag [.t (.sc (.int .i64 x1.kind)), .t (.sc (.str x1.name)), .t (.sc (.int .i64 x1.n)), .t (.sl (x1.scopes.map rI)), .t (.sl (x1.kids.map Form.row))], .t (.sl (x2.map Form.row))] noOb (.t (.sc (.bool r))) noOb
theorem m_impl_isVar_ok (fuel : Nat) : m_impl_isVar_AC fuel := by
 intro x1 x2 r F0
 unfold zf8 at F0
 refine AC_i [.t (.sc (.bool r))] Tryz.func159 rfl Tryz.ntmps159 ?_
 intro C hC
 refine zb (za ?_)
 refine zaF ?_
 refine s_as ?_
 refine zf (zd (zb (za ?_)))
 refine s_fa zc8 ?_
 refine zp yA3 ?_
 refine s_eq ?_
 refine s_mv ?_
 refine zy _ 8 F0 ?_ ?_ <;> intro C1 F1
 refine s_fa zcH ?_
 refine zp yA9 ?_
 refine s_neS ?_
 refine zC ?_
 refine s_mv ?_
 refine zy _ 13 F1 ?_ ?_ <;> intro C2 F2
 refine s_fa zcH ?_
 refine zp yA9 ?_
 refine s_neS ?_
 refine zC ?_
 refine s_mv ?_
 refine zy _ 18 F2 ?_ ?_ <;> intro C3 F3
 refine s_mv ?_
 refine zad yA37 yS37 ?_
 obtain ⟨v4, V4, F4⟩ := zc F3
 refine zz [] (zg3 fuel _ _ _ V4) ?_
 refine zbC ?_
 refine zC ?_
 refine s_as ?_
 refine zf (zd (zh (zm ?_)))
 cases F4
 exact zk [] [] Tryz.results159
 iterate 4 refine r_no rfl ?_
 refine zF ?_
 refine s_as ?_
 refine zf (zd (zh (zm ?_)))
 cases F3
 exact zk [] [] Tryz.results159
 iterate 3 refine r_no rfl ?_
 refine zF ?_
 refine s_mv ?_
 iterate 4 refine r_no rfl ?_
 refine zF ?_
 refine s_as ?_
 refine zf (zd (zh (zm ?_)))
 cases F2
 exact zk [] [] Tryz.results159
 iterate 3 refine r_no rfl ?_
 refine zF ?_
 refine s_mv ?_
 iterate 3 refine r_no rfl ?_
 refine zF ?_
 refine s_mv ?_
 iterate 4 refine r_no rfl ?_
 refine zF ?_
 refine s_as ?_
 refine zf (zd (zh (zm ?_)))
 cases F1
 exact zk [] [] Tryz.results159
def zdp (fuel : Nat) : Prop := ∀ (x1 : Form) (x2 : (List Form)) (x3 : Int) (o1 : (List Form)) (o2 : (List Int)) (r : ((List Form) × (List Int))), zaQ fuel x1 x2 x3 o1 o2 = some r → AC Tryz.prog 133 [.ag [.t (.sc (.int .i64 x1.kind)), .t (.sc (.str x1.name)), .t (.sc (.int .i64 x1.n)), .t (.sl (x1.scopes.map rI)), .t (.sl (x1.kids.map Form.row))], .t (.sl (x2.map Form.row)), .t (.sc (.int .i64 x3)), .rf 9000 0, .rf 9001 0] (objs [(9000, .box [.ar 9420]), (9420, .arr (o1.map Form.row) 37 true), (9001, .box [.ar 9440]), (9440, .arr (o2.map rI) 3 true)]) (.tp []) (objs [(9000, .box [.ar 10420]), (9420, .dead), (9001, .box [.ar 10440]), (9440, .dead), (10420, .arr (r.1.map Form.row) 37 true), (10440, .arr (r.2.map rI) 3 true)])
theorem m_impl_patternVars_st (fu : Nat) (ih_m_impl_patternVars : ∀ k, k ≤ fu → zdp k) : zdp (fu + 1) := by
 intro x1 x2 x3 o1 o2 r F0
 rw [zaQ] at F0
 refine AC_i [] Tryz.func133 rfl Tryz.ntmps133 ?_
 intro C hC
 refine zb (za ?_)
 refine zaF ?_
 refine zf (zd (zb (zb (za ?_))))
 refine zad yA37 yS37 ?_
 refine s_mv ?_
 obtain ⟨v1, V1, F1⟩ := zc F0
 refine zz [] (m_impl_isVar_ok fu _ _ _ V1) ?_
 refine zf (zd ?_)
 refine zn F1 ?_ ?_ <;> intro C2 F2
 refine zb ?_
 refine zaf yMix (by kernel_rfl) ?_
 refine s_mv0 ?_
 refine s_nc ?_
 refine zp yA35 ?_
 refine zad yA37 yS37 ?_
 refine s_lenA yU35 ?_
 refine s_bs Form.row [(Form.mk 0 (⟨#[]⟩ : ByteArray) 0 ([] : List Int) ([] : List Form))] yP35 yR37 ?_
 obtain ⟨hk3, F3⟩ := zaS F2
 refine s_apT Form.row (fun y => Form.row_len y) hk3 yP35 ?_
 obtain ⟨v4, V4, F4⟩ := zc F3
 refine s_ixA Form.row V4 yE35 ?_
 refine s_stA Form.row x1 V4 (Form.row_eq _) (Form.row_eq _) yS37 yS37 ?_
 refine s_nc ?_
 refine zb4 yS35 ?_
 refine zao (by kernel_rfl) ?_
 refine zd (za ?_)
 refine s_mv ?_
 refine s_mv ?_
 refine s_nc ?_
 refine zp yA23 ?_
 refine s_mv ?_
 refine s_bs rI [x3] yP23 yR3 ?_
 obtain ⟨hk5, F5⟩ := zaS F4
 refine s_apT rI (fun _ => rfl) hk5 yP23 ?_
 refine s_nc ?_
 refine zb4 yS23 ?_
 refine zf (zd (zb (za ?_)))
 refine s_fa zZ ?_
 refine zp yA35 ?_
 refine zE yU35 ?_
 refine s_mv ?_
 refine zf (zd (zl ?_))
 refine zfq 9000 22 5020 [.ar 5020] ?_
 refine zfq 9001 31 5021 [.ar 5021] ?_
 refine zbP [10, 11, 12, 36, 37, 38, 39, 40, 41, 42, 43, 44, 45, 46, 47, 48, 49, 50, 51, 52, 53, 54, 55, 56, 57, 58, 59, 60, 61, 62, 63, 64, 65] [5020, 5021, 9000, 9001] [11, 42064, 52064] [5020, 5021] (fun a : Nat × Int × (List Form) × (List Int) => a.1) (fun a : Nat × Int × (List Form) × (List Int) => [(36, .t (.sc (.int .i64 a.2.1)))]) (fun a : Nat × Int × (List Form) × (List Int) => [(5020, .arr (a.2.2.1.map Form.row) 37 true), (5021, .arr (a.2.2.2.map rI) 3 true), (9000, .box [.ar 5020]), (9001, .box [.ar 5021])]) (fun a : Nat × Int × (List Form) × (List Int) => a.1 ≤ fu ∧ zJ a.1 x1 x2 x3 a.2.1 a.2.2.1 a.2.2.2 = some r ∧ 0 ≤ a.2.1) (fu, 0, ((o1 ++ [(Form.mk 0 (⟨#[]⟩ : ByteArray) 0 ([] : List Int) ([] : List Form))]).set (o1.length : Int).toNat x1), (o2 ++ [x3])) ⟨Nat.le_refl _, F5, by simp⟩ (by rfl) (by rfl) (fun _ => rfl) (zbj (by conv => lhs; whnf) (by rfl) zc5) (zaj (by conv => lhs; whnf) (by rfl) (zaj (by conv => lhs; whnf) (by rfl) (zaj (by conv => lhs; whnf) (by rfl) (zaj (by conv => lhs; whnf) (by rfl) zcz)))) (zeG hC rfl) (by repeat (first | exact zby rfl | refine zb2 rfl ?_ | refine zaT rfl ?_)) (by repeat (first | exact zcw | exact zbD rfl | refine zb3 rfl ?_ | refine zaU rfl ?_)) ?_
 clear F5
 rintro ⟨fu, g6, g7, g8⟩ ⟨hl9, F6, hn_g6⟩
 dsimp only at hl9 F6 hn_g6 ⊢
 obtain _ | fu := fu
 · rw [zJ] at F6; cases F6
 rw [zJ] at F6
 refine zb (za ?_)
 refine s_lt ?_
 refine zf (zd (zb ?_))
 refine zn F6 ?_ ?_ <;> intro C10 F7
 refine zG 34 (fun B11 => ?_)
 refine zi (zd (zb (zl (zb (za ?_)))))
 refine s_mv ?_
 obtain ⟨v12, V12, F8⟩ := zc F7
 refine zL Form.row V12 (Form.row_eq _) yE35 ?_
 refine zag yA37 yS37 ?_
 refine zU yZ37 ?_
 refine s_as ?_
 refine zb4 yS37 ?_
 refine zf (zd (zb (za ?_)))
 refine s_mv ?_
 refine s_as ?_
 refine zf (zd (zb (zb (za ?_))))
 refine s_mv ?_
 refine zI (zak C10 B11 hn_g6) ?_
 refine s_fa zZ ?_
 refine zp yA35 ?_
 refine zE yU35 ?_
 refine s_lt ?_
 refine s_mv ?_
 refine zy _ 48 F8 ?_ ?_ <;> intro C13 F9
 refine s_fa zZ ?_
 refine zp yA35 ?_
 refine s_mv ?_
 refine zI (zak C10 B11 hn_g6) ?_
 obtain ⟨v14, V14, F10⟩ := zc F9
 refine zL Form.row V14 (Form.row_eq _) yE35 ?_
 refine zag yA37 yS37 ?_
 obtain ⟨v15, V15, F11⟩ := zc F10
 refine zz [] (zb9 fu _ _ _ V15) ?_
 refine zC ?_
 refine zf (zd ?_)
 refine zn F11 ?_ ?_ <;> intro C16 F12
 refine za ?_
 refine s_mv ?_
 refine zI rfl ?_
 refine s_as ?_
 refine zf (zd (za ?_))
 refine zad yA37 yS37 ?_
 iterate 4 refine s_mv ?_
 obtain ⟨v17, V17, F13⟩ := zc F12
 refine zQ [(9000, 9000), (9001, 9001), (9420, 5020), (9440, 5021), (10420, 42064), (10440, 52064)] [] _ _ (ih_m_impl_patternVars fu (by omega) _ _ _ _ _ _ V17) ?_
 refine zf (z6 (zd (za ?_)))
 refine zI (zak C10 B11 hn_g6) ?_
 refine s_mv ?_
 refine zf ?_
 exact s_rn (fu, (g6 + 1), v17.1, v17.2) ⟨by first | omega | (dsimp only; omega), F13, by first | omega | (dsimp only; omega)⟩ [(5020, 42064), (5021, 52064)]
 refine zi (zd (za ?_))
 refine zad yA37 yS37 ?_
 iterate 4 refine s_mv ?_
 obtain ⟨v18, V18, F13⟩ := zc F12
 refine zQ [(9000, 9000), (9001, 9001), (9420, 5020), (9440, 5021), (10420, 42064), (10440, 52064)] [] _ _ (ih_m_impl_patternVars fu (by omega) _ _ _ _ _ _ V18) ?_
 refine zf (z6 (zd (za ?_)))
 refine zI (zak C10 B11 hn_g6) ?_
 refine s_mv ?_
 refine zf ?_
 exact s_rn (fu, (g6 + 1), v18.1, v18.2) ⟨by first | omega | (dsimp only; omega), F13, by first | omega | (dsimp only; omega)⟩ [(5020, 42064), (5021, 52064)]
 iterate 7 refine r_no rfl ?_
 refine zF ?_
 refine zf (zd (zci rfl (zi (zd (za ?_)))))
 refine zad yA37 yS37 ?_
 iterate 4 refine s_mv ?_
 obtain ⟨v19, V19, F10⟩ := zc F9
 refine zQ [(9000, 9000), (9001, 9001), (9420, 5020), (9440, 5021), (10420, 42064), (10440, 52064)] [] _ _ (ih_m_impl_patternVars fu (by omega) _ _ _ _ _ _ V19) ?_
 refine zf (z6 (zd (za ?_)))
 refine zI (zak C10 B11 hn_g6) ?_
 refine s_mv ?_
 refine zf ?_
 exact s_rn (fu, (g6 + 1), v19.1, v19.2) ⟨by first | omega | (dsimp only; omega), F10, by first | omega | (dsimp only; omega)⟩ [(5020, 42064), (5021, 52064)]
 refine zfq 9000 5020 10420 [.ar 10420] ?_
 refine zfq 9001 5021 10440 [.ar 10440] ?_
 refine zB (zw (zr (zx (k_fin_end ?_))))
 cases F7
 exact zk _ [] Tryz.results133
 refine zi (zd (zb (za ?_)))
 refine s_fa zZ ?_
 refine zp yA35 ?_
 refine zE yU35 ?_
 refine s_mv ?_
 refine zf (zd (zl ?_))
 refine zfq 9000 9420 5040 [.ar 5040] ?_
 refine zfq 9001 9440 5041 [.ar 5041] ?_
 refine zbP [10, 11, 12, 36, 37, 38, 39, 40, 41, 42, 43, 44, 45, 46, 47, 48, 49, 50, 51, 52, 53, 54, 55, 56, 57, 58, 59, 60, 61, 62, 63, 64, 65] [5040, 5041, 9000, 9001] [11, 42064, 52064] [5040, 5041] (fun a : Nat × Int × (List Form) × (List Int) => a.1) (fun a : Nat × Int × (List Form) × (List Int) => [(36, .t (.sc (.int .i64 a.2.1)))]) (fun a : Nat × Int × (List Form) × (List Int) => [(5040, .arr (a.2.2.1.map Form.row) 37 true), (5041, .arr (a.2.2.2.map rI) 3 true), (9000, .box [.ar 5040]), (9001, .box [.ar 5041])]) (fun a : Nat × Int × (List Form) × (List Int) => a.1 ≤ fu ∧ zJ a.1 x1 x2 x3 a.2.1 a.2.2.1 a.2.2.2 = some r ∧ 0 ≤ a.2.1) (fu, 0, o1, o2) ⟨Nat.le_refl _, F2, by simp⟩ (by rfl) (by rfl) (fun _ => rfl) (zbj (by conv => lhs; whnf) (by rfl) zc5) (zaj (by conv => lhs; whnf) (by rfl) (zaj (by conv => lhs; whnf) (by rfl) (zaj (by conv => lhs; whnf) (by rfl) (zaj (by conv => lhs; whnf) (by rfl) zcz)))) (zeG hC rfl) (by repeat (first | exact zby rfl | refine zb2 rfl ?_ | refine zaT rfl ?_)) (by repeat (first | exact zcw | exact zbD rfl | refine zb3 rfl ?_ | refine zaU rfl ?_)) ?_
 clear F2
 rintro ⟨fu, g20, g21, g22⟩ ⟨hl23, F3, hn_g20⟩
 dsimp only at hl23 F3 hn_g20 ⊢
 obtain _ | fu := fu
 · rw [zJ] at F3; cases F3
 rw [zJ] at F3
 refine zb (za ?_)
 refine s_lt ?_
 refine zf (zd (zb ?_))
 refine zn F3 ?_ ?_ <;> intro C24 F4
 refine zG 34 (fun B25 => ?_)
 refine zi (zd (zb (zl (zb (za ?_)))))
 refine s_mv ?_
 obtain ⟨v26, V26, F5⟩ := zc F4
 refine zL Form.row V26 (Form.row_eq _) yE35 ?_
 refine zag yA37 yS37 ?_
 refine zU yZ37 ?_
 refine s_as ?_
 refine zb4 yS37 ?_
 refine zf (zd (zb (za ?_)))
 refine s_mv ?_
 refine s_as ?_
 refine zf (zd (zb (zb (za ?_))))
 refine s_mv ?_
 refine zI (zak C24 B25 hn_g20) ?_
 refine s_fa zZ ?_
 refine zp yA35 ?_
 refine zE yU35 ?_
 refine s_lt ?_
 refine s_mv ?_
 refine zy _ 48 F5 ?_ ?_ <;> intro C27 F6
 refine s_fa zZ ?_
 refine zp yA35 ?_
 refine s_mv ?_
 refine zI (zak C24 B25 hn_g20) ?_
 obtain ⟨v28, V28, F7⟩ := zc F6
 refine zL Form.row V28 (Form.row_eq _) yE35 ?_
 refine zag yA37 yS37 ?_
 obtain ⟨v29, V29, F8⟩ := zc F7
 refine zz [] (zb9 fu _ _ _ V29) ?_
 refine zC ?_
 refine zf (zd ?_)
 refine zn F8 ?_ ?_ <;> intro C30 F9
 refine za ?_
 refine s_mv ?_
 refine zI rfl ?_
 refine s_as ?_
 refine zf (zd (za ?_))
 refine zad yA37 yS37 ?_
 iterate 4 refine s_mv ?_
 obtain ⟨v31, V31, F10⟩ := zc F9
 refine zQ [(9000, 9000), (9001, 9001), (9420, 5040), (9440, 5041), (10420, 42064), (10440, 52064)] [] _ _ (ih_m_impl_patternVars fu (by omega) _ _ _ _ _ _ V31) ?_
 refine zf (z6 (zd (za ?_)))
 refine zI (zak C24 B25 hn_g20) ?_
 refine s_mv ?_
 refine zf ?_
 exact s_rn (fu, (g20 + 1), v31.1, v31.2) ⟨by first | omega | (dsimp only; omega), F10, by first | omega | (dsimp only; omega)⟩ [(5040, 42064), (5041, 52064)]
 refine zi (zd (za ?_))
 refine zad yA37 yS37 ?_
 iterate 4 refine s_mv ?_
 obtain ⟨v32, V32, F10⟩ := zc F9
 refine zQ [(9000, 9000), (9001, 9001), (9420, 5040), (9440, 5041), (10420, 42064), (10440, 52064)] [] _ _ (ih_m_impl_patternVars fu (by omega) _ _ _ _ _ _ V32) ?_
 refine zf (z6 (zd (za ?_)))
 refine zI (zak C24 B25 hn_g20) ?_
 refine s_mv ?_
 refine zf ?_
 exact s_rn (fu, (g20 + 1), v32.1, v32.2) ⟨by first | omega | (dsimp only; omega), F10, by first | omega | (dsimp only; omega)⟩ [(5040, 42064), (5041, 52064)]
 iterate 7 refine r_no rfl ?_
 refine zF ?_
 refine zf (zd (zci rfl (zi (zd (za ?_)))))
 refine zad yA37 yS37 ?_
 iterate 4 refine s_mv ?_
 obtain ⟨v33, V33, F7⟩ := zc F6
 refine zQ [(9000, 9000), (9001, 9001), (9420, 5040), (9440, 5041), (10420, 42064), (10440, 52064)] [] _ _ (ih_m_impl_patternVars fu (by omega) _ _ _ _ _ _ V33) ?_
 refine zf (z6 (zd (za ?_)))
 refine zI (zak C24 B25 hn_g20) ?_
 refine s_mv ?_
 refine zf ?_
 exact s_rn (fu, (g20 + 1), v33.1, v33.2) ⟨by first | omega | (dsimp only; omega), F7, by first | omega | (dsimp only; omega)⟩ [(5040, 42064), (5041, 52064)]
 refine zfq 9000 5040 10420 [.ar 10420] ?_
 refine zfq 9001 5041 10440 [.ar 10440] ?_
 refine zB (zw (zr (zx (k_fin_end ?_))))
 cases F4
 exact zk _ [] Tryz.results133
theorem m_impl_patternVars_all (fuel : Nat) : zdp fuel := by
 induction fuel using Nat.strongRecOn with
 | _ N ih =>
   cases N with
   | zero => exact (by intro x1 x2 x3 o1 o2 r h; rw [zaQ] at h; cases h)
   | succ fu => exact m_impl_patternVars_st fu (fun k hk => (ih k (by omega)))
theorem m_impl_patternVars_ok (fuel : Nat) : zdp fuel := (m_impl_patternVars_all fuel)
def m_impl_varsOf_AC (fuel : Nat) : Prop := ∀ (x1 : Form) (x2 : (List Form)) (r : ((List Form) × (List Int))), zdZ fuel x1 x2 = some r → AC Tryz.prog 101 [.ag [.t (.sc (.int .i64 x1.kind)), .t (.sc (.str x1.name)), .t (.sc (.int .i64 x1.n)), .t (.sl (x1.scopes.map rI)), .t (.sl (x1.kids.map Form.row))], .t (.sl (x2.map Form.row))] (objs []) (.tp [.ar 9200, .t (.sl (r.2.map rI))]) (objs [(9200, .arr (r.1.map Form.row) 37 true)])
theorem m_impl_varsOf_ok (fuel : Nat) : m_impl_varsOf_AC fuel := by
 intro x1 x2 r F0
 unfold zdZ at F0
 refine AC_i [.ar 9200, .t (.sl (r.2.map rI))] Tryz.func101 rfl Tryz.ntmps101 ?_
 intro C hC
 refine zb (za ?_)
 refine zaF ?_
 refine s_as ?_
 refine s_as ?_
 refine zf (zd (zb (za ?_)))
 refine s_bs Form.row ([] : List Form) yP35 yR37 ?_
 refine s_bs rI ([] : List Int) yP23 yR3 ?_
 refine zU yZ35 ?_
 refine zU yZ23 ?_
 refine zb4 yS35 ?_
 refine zb4 yS23 ?_
 refine zf (zd (zb (za ?_)))
 refine zad yA37 yS37 ?_
 refine s_mv ?_
 obtain ⟨v1, V1, F1⟩ := zc F0
 refine zQ [(9000, 6), (9001, 7), (9420, 8), (9440, 9), (10420, 42012), (10440, 52012)] [] _ _ (m_impl_patternVars_ok fuel _ _ _ _ _ _ V1) ?_
 refine zf (zd (zb ?_))
 refine zaf yMix (by kernel_rfl) ?_
 refine zp yA35 ?_
 refine zp yA23 ?_
 refine s_as ?_
 refine s_as ?_
 refine zao (by kernel_rfl) ?_
 refine zd ?_
 refine zhl 4 42012 9200 (by conv => lhs; whnf) (by conv => lhs; whnf) rfl ?_
 refine zh (zm ?_)
 cases F1
 exact zk _ [52012] Tryz.results101
def m_impl_PatternValid_AC (fuel : Nat) : Prop := ∀ (x1 : Form) (x2 : (List Form)) (r : Bool), zc3 fuel x1 x2 = some r → AC Tryz.prog 49 [.ag [.t (.sc (.int .i64 x1.kind)), .t (.sc (.str x1.name)), .t (.sc (.int .i64 x1.n)), .t (.sl (x1.scopes.map rI)), .t (.sl (x1.kids.map Form.row))], .t (.sl (x2.map Form.row))] noOb (.t (.sc (.bool r))) noOb
theorem m_impl_PatternValid_ok (fuel : Nat) : m_impl_PatternValid_AC fuel := by
 intro x1 x2 r F0
 unfold zc3 at F0
 refine AC_i [.t (.sc (.bool r))] Tryz.func49 rfl Tryz.ntmps49 ?_
 intro C hC
 refine zb (za ?_)
 refine zaF ?_
 refine s_as ?_
 refine zf (zd (zb (zb (za ?_))))
 refine zad yA37 yS37 ?_
 obtain ⟨v1, V1, F1⟩ := zc F0
 refine zz [] (zfp fuel _ _ V1) ?_
 refine zbC ?_
 refine s_mv ?_
 refine zy _ 12 F1 ?_ ?_ <;> intro C2 F2
 iterate 3 refine r_no rfl ?_
 refine zC ?_
 refine s_mv ?_
 refine r_no rfl (r_no rfl ?_)
 refine zC ?_
 refine s_mv ?_
 iterate 3 refine r_no rfl ?_
 refine zC ?_
 refine zf (zd (zM rfl (zb (za ?_))))
 refine s_as ?_
 refine zf (zd (zh (zg (zm ?_))))
 cases F2
 exact zk [] [] Tryz.results49
 refine s_mv ?_
 obtain ⟨v3, V3, F3⟩ := zc F2
 refine zz [] (zgl fuel _ _ V3) ?_
 refine zbC ?_
 refine zF ?_
 refine s_mv ?_
 refine zy _ 17 F3 ?_ ?_ <;> intro C4 F4
 refine r_no rfl (r_no rfl ?_)
 refine zC ?_
 refine s_mv ?_
 iterate 3 refine r_no rfl ?_
 refine zC ?_
 refine zf (zd (zM rfl (zb (za ?_))))
 refine s_as ?_
 refine zf (zd (zh (zg (zm ?_))))
 cases F4
 exact zk [] [] Tryz.results49
 refine zad yA37 yS37 ?_
 obtain ⟨v5, V5, F5⟩ := zc F4
 refine zz [] (zb9 fuel _ _ _ V5) ?_
 refine zF ?_
 refine s_mv ?_
 refine zy _ 21 F5 ?_ ?_ <;> intro C6 F6
 iterate 3 refine r_no rfl ?_
 refine zC ?_
 refine zf (zd (zM rfl (zb (za ?_))))
 refine s_as ?_
 refine zf (zd (zh (zg (zm ?_))))
 cases F6
 exact zk [] [] Tryz.results49
 refine zad yA37 yS37 ?_
 obtain ⟨v7, V7, F7⟩ := zc F6
 refine zz [] (m_impl_dotsOk_ok fuel _ _ _ V7) ?_
 refine zbC ?_
 refine zF ?_
 refine zf (zd ?_)
 refine zn F7 ?_ ?_ <;> intro C8 F8
 refine zb (za ?_)
 refine s_as ?_
 refine zf (zd (zh (zg (zm ?_))))
 cases F8
 exact zk [] [] Tryz.results49
 refine zi (zd (zb (za ?_)))
 refine zad yA37 yS37 ?_
 refine s_mv ?_
 obtain ⟨v9, V9, F9⟩ := zc F8
 refine zQ [(9200, 2029)] [] _ _ (m_impl_varsOf_ok fuel _ _ _ V9) ?_
 refine s_mv ?_
 refine s_ext ?_
 refine s_ext ?_
 refine s_as ?_
 refine s_as ?_
 refine zf (zd (zb (zb (za ?_))))
 refine s_mv ?_
 refine s_lenA yU35 ?_
 refine s_mv ?_
 refine zf (zd (zl ?_))
 refine awp_frz 2029 (by conv => lhs; whnf) ?_
 refine zap (β := Int × (List Form)) [4, 7, 8, 34, 35, 36, 37, 38, 39, 40, 41, 42, 43, 44, 45, 46, 47, 48, 49, 50, 51] [2029] [8] (fun a => [(34, .t (.sc (.int .i64 a.2.1)))]) (fun a => [(2029, .arr (a.2.2.map Form.row) 37 false)]) (fun a => a.1 ≤ fuel ∧ zav a.1 v9 a.2.1 a.2.2 = some r) (fuel, 0, v9.1) ⟨Nat.le_refl _, F9⟩ ?_
 clear F9
 rintro ⟨fu, g10, g11⟩ ⟨hl12, F10⟩
 dsimp only at hl12 F10 ⊢
 obtain _ | fu := fu
 · rw [zav] at F10; cases F10
 rw [zav] at F10
 refine zb (za ?_)
 refine s_lt ?_
 refine zf (zd (zb ?_))
 refine zn F10 ?_ ?_ <;> intro C13 F11
 refine zi (zd (zb (zl (zb (za ?_)))))
 refine s_mv ?_
 obtain ⟨v14, V14, F12⟩ := zc F11
 refine s_ixA Form.row V14 yE35 ?_
 refine s_lAN Form.row V14 (Form.row_eq _) yA37 yS37 ?_
 refine zU yZ37 ?_
 refine s_as ?_
 refine zb4 yS37 ?_
 refine zf (zd (zb ?_))
 refine zaf yMix (by kernel_rfl) ?_
 refine s_mv0 ?_
 refine s_mv ?_
 obtain ⟨v15, V15, F13⟩ := zc F12
 refine s_sl01 Form.row (fun y => Form.row_len y) V15 yU35 yE35 ?_
 refine zad yA37 yS37 ?_
 obtain ⟨v16, V16, F14⟩ := zc F13
 refine zz [] (zg3 fu _ _ _ V16) ?_
 refine s_mv ?_
 refine zy _ 44 F14 ?_ ?_ <;> intro C17 F15
 iterate 5 refine r_no rfl ?_
 refine zC ?_
 refine zao (by kernel_rfl) ?_
 refine zd (zM rfl (zb (za ?_)))
 refine s_as ?_
 refine zf (zd (zh (zj (zg (zu (zj (zg (zm ?_))))))))
 cases F15
 exact zk [] [] Tryz.results49
 refine s_mv ?_
 refine s_mv ?_
 obtain ⟨v18, V18, F16⟩ := zc F15
 refine zL rI V18 rfl yE23 ?_
 refine zp yA3 ?_
 refine s_gt ?_
 refine zF ?_
 refine zao (by kernel_rfl) ?_
 refine zd ?_
 refine zn F16 ?_ ?_ <;> intro C19 F17
 refine zb (za ?_)
 refine s_as ?_
 refine zf (zd (zh (zj (zg (zu (zj (zg (zm ?_))))))))
 cases F17
 exact zk [] [] Tryz.results49
 refine zi (z6 (zd (za ?_)))
 refine zI rfl ?_
 refine s_mv ?_
 refine zf ?_
 exact s_rn (fu, (w64 (g10 + 1)), g11) ⟨by first | omega | (dsimp only; omega), F17⟩
 refine zB (zw (zr (zx (zd (zb (za ?_))))))
 refine s_mv ?_
 refine s_lenA yU35 ?_
 refine s_le ?_
 refine s_as ?_
 refine zf (zd (zh (zm ?_)))
 cases F11
 exact zk [] [] Tryz.results49
def m_impl_depthIn_1_AC (fuel : Nat) : Prop := ∀ (x1 : Form) (o1 : Form) (r : Bool), zeg fuel x1 o1 = some r → AC Tryz.prog 185 [.ag [.t (.sc (.int .i64 x1.kind)), .t (.sc (.str x1.name)), .t (.sc (.int .i64 x1.n)), .t (.sl (x1.scopes.map rI)), .t (.sl (x1.kids.map Form.row))], .rf 9000 0] (objs [(9000, .box [.t (.sc (.int .i64 o1.kind)), .t (.sc (.str o1.name)), .t (.sc (.int .i64 o1.n)), .t (.sl (o1.scopes.map rI)), .t (.sl (o1.kids.map Form.row))])]) (.t (.sc (.bool r))) (objs [(9000, .box [.t (.sc (.int .i64 o1.kind)), .t (.sc (.str o1.name)), .t (.sc (.int .i64 o1.n)), .t (.sl (o1.scopes.map rI)), .t (.sl (o1.kids.map Form.row))])])
theorem m_impl_depthIn_1_ok (fuel : Nat) : m_impl_depthIn_1_AC fuel := by
 intro x1 o1 r F0
 unfold zeg at F0
 refine AC_i [.t (.sc (.bool r))] Tryz.func185 rfl Tryz.ntmps185 ?_
 intro C hC
 refine zb (za ?_)
 refine zaF ?_
 refine s_as ?_
 refine zf (zd (zb (za ?_)))
 refine zad yA37 yS37 ?_
 refine zad yA37 yS37 ?_
 obtain ⟨v1, V1, F1⟩ := zc F0
 refine zz [] (zgV fuel _ _ _ V1) ?_
 refine s_as ?_
 refine zf (zd (zh (zm ?_)))
 cases F1
 exact zk _ [] Tryz.results185
def ze2 (fuel : Nat) : Prop := ∀ (x1 : (List Form)) (o1 : Form) (r : Int), zbe fuel x1 o1 = some r → AC Tryz.prog 139 [.t (.sl (x1.map Form.row)), .fn 185 [.rf 9000 0]] (objs [(9000, .box [.t (.sc (.int .i64 o1.kind)), .t (.sc (.str o1.name)), .t (.sc (.int .i64 o1.n)), .t (.sl (o1.scopes.map rI)), .t (.sl (o1.kids.map Form.row))])]) (.t (.sc (.int .i64 r))) (objs [(9000, .box [.t (.sc (.int .i64 o1.kind)), .t (.sc (.str o1.name)), .t (.sc (.int .i64 o1.n)), .t (.sl (o1.scopes.map rI)), .t (.sl (o1.kids.map Form.row))])])
theorem ze1 (fuel : Nat) : ze2 fuel := by
 intro x1 o1 r F0
 unfold zbe at F0
 refine AC_i [.t (.sc (.int .i64 r))] Tryz.func139 rfl Tryz.ntmps139 ?_
 intro C hC
 refine zb (za ?_)
 refine s_as ?_
 refine zf (zd (zb (zb (za ?_))))
 refine s_mv ?_
 refine zE yU35 ?_
 refine s_mv ?_
 refine zf (zd (zl ?_))
 refine zap (β := Int) [4, 5, 8, 9, 10, 11, 12, 13, 14, 15, 16, 17, 18] [] [] (fun a => [(8, .t (.sc (.int .i64 a.2)))]) (fun a => []) (fun a => a.1 ≤ fuel ∧ zT a.1 x1 o1 a.2 = some r ∧ 0 ≤ a.2) (fuel, 0) ⟨Nat.le_refl _, F0, by simp⟩ ?_
 clear F0
 rintro ⟨fu, g1⟩ ⟨hl2, F1, hn_g1⟩
 dsimp only at hl2 F1 hn_g1 ⊢
 obtain _ | fu := fu
 · rw [zT] at F1; cases F1
 rw [zT] at F1
 refine zb (za ?_)
 refine s_lt ?_
 refine zf (zd (zb ?_))
 refine zn F1 ?_ ?_ <;> intro C3 F2
 refine zG 0 (fun B4 => ?_)
 refine zi (zd (zb (zl (zb (za ?_)))))
 refine s_mv ?_
 refine s_as ?_
 refine zf (zd (zb (za ?_)))
 iterate 3 refine s_mv ?_
 obtain ⟨v5, V5, F3⟩ := zc F2
 refine zL Form.row V5 (Form.row_eq _) yE35 ?_
 refine zag yA37 yS37 ?_
 obtain ⟨v6, V6, F4⟩ := zc F3
 refine zQ [(9000, 9000)] [] _ _ (m_impl_depthIn_1_ok fu _ _ _ V6) ?_
 refine zf (zd ?_)
 refine zn F4 ?_ ?_ <;> intro C7 F5
 refine zb (za ?_)
 refine s_mv ?_
 refine s_as ?_
 refine zf (zd (zh (zj (zg (zu (zj (zg (zm ?_))))))))
 cases F5
 exact zk _ [] Tryz.results139
 refine zi (z6 (zd (za ?_)))
 refine zI (zak C3 B4 hn_g1) ?_
 refine s_mv ?_
 refine zf ?_
 exact s_rn (fu, (g1 + 1)) ⟨by first | omega | (dsimp only; omega), F5, by first | omega | (dsimp only; omega)⟩
 refine zB (zw (zr (zx (zd (zb (za ?_))))))
 refine s_as ?_
 refine zf (zd (zh (zm ?_)))
 cases F2
 exact zk _ [] Tryz.results139
def m_impl_depthIn_AC (fuel : Nat) : Prop := ∀ (x1 : (List Form)) (x2 : (List Int)) (x3 : Form) (r : Int), zeo fuel x1 x2 x3 = some r → AC Tryz.prog 180 [.t (.sl (x1.map Form.row)), .t (.sl (x2.map rI)), .ag [.t (.sc (.int .i64 x3.kind)), .t (.sc (.str x3.name)), .t (.sc (.int .i64 x3.n)), .t (.sl (x3.scopes.map rI)), .t (.sl (x3.kids.map Form.row))]] noOb (.t (.sc (.int .i64 r))) noOb
theorem zhi (fuel : Nat) : m_impl_depthIn_AC fuel := by
 intro x1 x2 x3 r F0
 unfold zeo at F0
 refine AC_i [.t (.sc (.int .i64 r))] Tryz.func180 rfl Tryz.ntmps180 ?_
 intro C hC
 refine zb (za ?_)
 refine zaF ?_
 refine s_as ?_
 refine zf (zd (zb (zb (za ?_))))
 refine s_fa zc8 ?_
 refine zp yA3 ?_
 refine s_ne ?_
 refine zf (zd ?_)
 refine zn F0 ?_ ?_ <;> intro C1 F1
 refine zb (za ?_)
 refine s_as ?_
 refine zf (zd (zh (zg (zm ?_))))
 cases F1
 exact zk [] [] Tryz.results180
 refine zi (zd (zb (za ?_)))
 refine s_mv ?_
 refine s_fn ?_
 obtain ⟨v2, V2, F2⟩ := zc F1
 refine zQ [(9000, 5)] [] _ _ (ze1 fuel _ _ _ V2) ?_
 refine s_as ?_
 refine zf (zd (zb (zb (za ?_))))
 refine s_mv ?_
 refine s_lt ?_
 refine zf (zd ?_)
 refine zn F2 ?_ ?_ <;> intro C3 F3
 refine zb (za ?_)
 refine s_as ?_
 refine zf (zd (zh (zg (zm ?_))))
 cases F3
 exact zk [] [] Tryz.results180
 refine zi (zd (zb (za ?_)))
 refine s_mv ?_
 refine s_mv ?_
 obtain ⟨v4, V4, F4⟩ := zc F3
 refine zL rI V4 rfl yE23 ?_
 refine zp yA3 ?_
 refine s_as ?_
 refine zf (zd (zh (zm ?_)))
 cases F4
 exact zk [] [] Tryz.results180
def m_impl_rowsOk_1_AC (fuel : Nat) : Prop := ∀ (x1 : Form) (o1 : Bool) (o2 : (List Form)) (o3 : (List Int)) (o4 : Int) (r : Bool), zfH fuel x1 o1 o2 o3 o4 = some r → AC Tryz.prog 181 [.ag [.t (.sc (.int .i64 x1.kind)), .t (.sc (.str x1.name)), .t (.sc (.int .i64 x1.n)), .t (.sl (x1.scopes.map rI)), .t (.sl (x1.kids.map Form.row))], .rf 9000 0, .rf 9001 0, .rf 9002 0, .rf 9003 0] (objs [(9000, .box [.t (.sc (.bool o1))]), (9001, .box [.t (.sl (o2.map Form.row))]), (9002, .box [.t (.sl (o3.map rI))]), (9003, .box [.t (.sc (.int .i64 o4))])]) (.tp []) (objs [(9000, .box [.t (.sc (.bool r))]), (9001, .box [.t (.sl (o2.map Form.row))]), (9002, .box [.t (.sl (o3.map rI))]), (9003, .box [.t (.sc (.int .i64 o4))])])
theorem m_impl_rowsOk_1_ok (fuel : Nat) : m_impl_rowsOk_1_AC fuel := by
 intro x1 o1 o2 o3 o4 r F0
 unfold zfH at F0
 refine AC_i [] Tryz.func181 rfl Tryz.ntmps181 ?_
 intro C hC
 refine zb (za ?_)
 refine zaF ?_
 refine zf (zd ?_)
 refine zaf yMix (by kernel_rfl) ?_
 refine zp yA4 ?_
 refine s_mv ?_
 refine zy _ 7 F0 ?_ ?_ <;> intro C1 F1
 iterate 6 refine r_no rfl ?_
 refine zC ?_
 refine zb4 yS4 ?_
 refine zao (by kernel_rfl) ?_
 refine k_fin_end ?_
 cases F1
 exact zk _ [] Tryz.results181
 refine zp yA35 ?_
 refine zp yA23 ?_
 refine zad yA37 yS37 ?_
 obtain ⟨v2, V2, F2⟩ := zc F1
 refine zz [] (zhi fuel _ _ _ _ V2) ?_
 refine zp yA3 ?_
 refine s_gt ?_
 refine zF ?_
 refine zb4 yS4 ?_
 refine zao (by kernel_rfl) ?_
 refine k_fin_end ?_
 cases F2
 exact zk _ [] Tryz.results181
end Go.Abs
