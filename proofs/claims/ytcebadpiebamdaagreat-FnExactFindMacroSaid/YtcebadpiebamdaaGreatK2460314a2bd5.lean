/- A part of the proof: what the functions that the law calls answer, as pure values. -/
import Derived.Test.YtcebadpiebamdaaGreatKf77228f6d9a2
import Derived.Test.YtcebadpiebamdaaGreatKfbd980a3bd19
import Derived.Test.YtcebadpiebamdaaGreatK423f84c32d54
import Derived.Test.YtcebadpiebamdaaGreatKf8de2f3a577a
set_option linter.unusedSimpArgs false
set_option linter.unusedVariables false
set_option maxRecDepth 100000
set_option maxHeartbeats 4000000
namespace Go.Abs
open Go.Proofs
theorem m_spec_l4Depths_all (fuel : Nat) : zeq fuel := by
 induction fuel using Nat.strongRecOn with
 | _ N ih =>
   cases N with
   | zero => exact (by intro x1 x2 x3 x4 r h; rw [zbm] at h; cases h)
   | succ fu => exact m_spec_l4Depths_st fu (fun k hk => (ih k (by omega)))
theorem zgP (fuel : Nat) : zeq fuel := (m_spec_l4Depths_all fuel)
def m_spec_l4Is_AC (fuel : Nat) : Prop := ∀ (x1 : Form) (x2 : (List Form)) (r : Bool), zgx fuel x1 x2 = some r → AC Tryz.prog 42 [.ag [.t (.sc (.int .i64 x1.kind)), .t (.sc (.str x1.name)), .t (.sc (.int .i64 x1.n)), .t (.sl (x1.scopes.map rI)), .t (.sl (x1.kids.map Form.row))], .t (.sl (x2.map Form.row))] noOb (.t (.sc (.bool r))) noOb
theorem m_spec_l4Is_ok (fuel : Nat) : m_spec_l4Is_AC fuel := by
 intro x1 x2 r F0
 unfold zgx at F0
 refine AC_i [.t (.sc (.bool r))] Tryz.func42 rfl Tryz.ntmps42 ?_
 intro C hC
 refine zb (za ?_)
 refine zaF ?_
 refine s_as ?_
 refine zf (zd (zb (zb (za ?_))))
 refine zad yA37 yS37 ?_
 obtain ⟨v1, V1, F1⟩ := zc F0
 refine zz [] (zfk fuel _ _ V1) ?_
 refine zbC ?_
 refine s_mv ?_
 refine zy _ 12 F1 ?_ ?_ <;> intro C2 F2
 iterate 3 refine r_no rfl ?_
 refine zC ?_
 refine s_mv ?_
 iterate 3 refine r_no rfl ?_
 refine zC ?_
 refine zf (zd (zM rfl (zb (za ?_))))
 refine s_as ?_
 refine zf (zd (zh (zg (zm ?_))))
 cases F2
 exact zk [] [] Tryz.results42
 refine s_mv ?_
 obtain ⟨v3, V3, F3⟩ := zc F2
 refine zz [] (zgj fuel _ _ V3) ?_
 refine zbC ?_
 refine zF ?_
 refine s_mv ?_
 refine zy _ 17 F3 ?_ ?_ <;> intro C4 F4
 iterate 3 refine r_no rfl ?_
 refine zC ?_
 refine zf (zd (zM rfl (zb (za ?_))))
 refine s_as ?_
 refine zf (zd (zh (zg (zm ?_))))
 cases F4
 exact zk [] [] Tryz.results42
 refine zad yA37 yS37 ?_
 obtain ⟨v5, V5, F5⟩ := zc F4
 refine zz [] (m_spec_l4Shape_ok fuel _ _ V5) ?_
 refine zbC ?_
 refine zF ?_
 refine zf (zd ?_)
 refine zn F5 ?_ ?_ <;> intro C6 F6
 refine zb (za ?_)
 refine s_as ?_
 refine zf (zd (zh (zg (zm ?_))))
 cases F6
 exact zk [] [] Tryz.results42
 refine zi (zd (zb (za ?_)))
 refine s_bs Form.row ([] : List Form) yP35 yR37 ?_
 refine zad yA37 yS37 ?_
 refine s_mv ?_
 obtain ⟨v7, V7, F7⟩ := zc F6
 refine zQ [(9300, 22), (9200, 12025)] [] _ _ (m_spec_l4Vars_ok fuel _ _ _ _ V7) ?_
 refine s_as ?_
 refine zf (zd (zb (zb (za ?_))))
 refine s_as ?_
 refine zf (zd (zl ?_))
 refine awp_frz 12025 (by conv => lhs; whnf) ?_
 refine zap (β := Int × (List Form)) [4, 6, 26, 27, 28, 29, 30, 31, 32, 33, 34, 35, 36, 37, 38, 39] [12025] [] (fun a => [(6, .t (.sc (.int .i64 a.2.1)))]) (fun a => [(12025, .arr (a.2.2.map Form.row) 37 false)]) (fun a => a.1 ≤ fuel ∧ zcR a.1 x1 x2 a.2.1 a.2.2 = some r ∧ 0 ≤ a.2.1) (fuel, 0, v7) ⟨Nat.le_refl _, F7, by simp⟩ ?_
 clear F7
 rintro ⟨fu, g8, g9⟩ ⟨hl10, F8, hn_g8⟩
 dsimp only at hl10 F8 hn_g8 ⊢
 obtain _ | fu := fu
 · rw [zcR] at F8; cases F8
 rw [zcR] at F8
 refine zb (zb (za ?_))
 refine s_mv ?_
 refine s_mv ?_
 refine s_lenA yU35 ?_
 refine s_lt ?_
 refine zf (zd ?_)
 refine zn F8 ?_ ?_ <;> intro C11 F9
 refine awp_lenA 5 12025 (fun B12 => ?_)
 refine zi (zd (zb (zl (zb ?_))))
 refine zaf yMix (by kernel_rfl) ?_
 refine s_mv0 ?_
 refine s_mv ?_
 obtain ⟨v13, V13, F10⟩ := zc F9
 refine s_sl01 Form.row (fun y => Form.row_len y) V13 yU35 yE35 ?_
 refine s_mv0 ?_
 refine s_mv ?_
 obtain ⟨v14, V14, F11⟩ := zc F10
 refine s_ixA Form.row V14 yE35 ?_
 refine s_lAN Form.row V14 (Form.row_eq _) yA37 yS37 ?_
 obtain ⟨v15, V15, F12⟩ := zc F11
 refine zz [] (zgZ fu _ _ _ V15) ?_
 refine zao (by kernel_rfl) ?_
 refine zd ?_
 refine zn F12 ?_ ?_ <;> intro C16 F13
 refine zb (za ?_)
 refine s_as ?_
 refine zf (zd (zh (zj (zg (zu (zj (zg (zm ?_))))))))
 cases F13
 exact zk [] [] Tryz.results42
 refine zi (z6 (zd (za ?_)))
 refine s_mv ?_
 refine zI (zak C11 B12 hn_g8) ?_
 refine s_as ?_
 refine zf ?_
 exact s_rn (fu, (g8 + 1), g9) ⟨by first | omega | (dsimp only; omega), F13, by first | omega | (dsimp only; omega)⟩
 refine zB (zw (zr (zx (zd (zb (za ?_))))))
 refine s_bs rI ([] : List Int) yP23 yR3 ?_
 refine zad yA37 yS37 ?_
 refine s_mv ?_
 obtain ⟨v17, V17, F10⟩ := zc F9
 refine zQ [(9300, 40), (9200, 12043)] [] _ _ (zgP fu _ _ _ _ _ V17) ?_
 refine s_as ?_
 refine zf (zd (zb (zb (za ?_))))
 refine s_as ?_
 refine zf (zd (zl ?_))
 refine zap (β := Int) [4, 8, 44, 45, 46, 47, 48, 49, 50, 51, 52, 53, 54] [] [] (fun a => [(8, .t (.sc (.int .i64 a.2)))]) (fun a => []) (fun a => a.1 ≤ fu ∧ zcQ a.1 g9 v17 a.2 = some r ∧ 0 ≤ a.2) (fu, 0) ⟨Nat.le_refl _, F10, by simp⟩ ?_
 clear F10
 rintro ⟨fu, g18⟩ ⟨hl19, F11, hn_g18⟩
 dsimp only at hl19 F11 hn_g18 ⊢
 obtain _ | fu := fu
 · rw [zcQ] at F11; cases F11
 rw [zcQ] at F11
 refine zb (zb (za ?_))
 refine s_mv ?_
 refine s_mv ?_
 refine s_lenA yU23 ?_
 refine s_lt ?_
 refine zf (zd ?_)
 refine zn F11 ?_ ?_ <;> intro C20 F12
 refine awp_lenA 7 12043 (fun B21 => ?_)
 refine zi (zd (zb (zl (zb (za ?_)))))
 refine s_mv ?_
 refine s_mv ?_
 obtain ⟨v22, V22, F13⟩ := zc F12
 refine s_ixA rI V22 yE23 ?_
 refine s_lA1 rI V22 rfl yA3 ?_
 refine s_gt ?_
 refine zf (zd ?_)
 refine zn F13 ?_ ?_ <;> intro C23 F14
 refine zb (za ?_)
 refine s_as ?_
 refine zf (zd (zh (zj (zg (zu (zj (zg (zm ?_))))))))
 cases F14
 exact zk [] [] Tryz.results42
 refine zi (z6 (zd (za ?_)))
 refine s_mv ?_
 refine zI (zak C20 B21 hn_g18) ?_
 refine s_as ?_
 refine zf ?_
 exact s_rn (fu, (g18 + 1)) ⟨by first | omega | (dsimp only; omega), F14, by first | omega | (dsimp only; omega)⟩
 refine zB (zw (zr (zx (zd (zb (za ?_))))))
 refine s_mv ?_
 refine s_lenA yU35 ?_
 refine s_le ?_
 refine s_as ?_
 refine zf (zd (zh (zm ?_)))
 cases F12
 exact zk [] [] Tryz.results42
def m_spec_l5Shape_AC (fuel : Nat) : Prop := ∀ (x1 : Form) (x2 : (List Form)) (r : (List Hit)), zeX fuel x1 x2 = some r → AC Tryz.prog 162 [.ag [.t (.sc (.int .i64 x1.kind)), .t (.sc (.str x1.name)), .t (.sc (.int .i64 x1.n)), .t (.sl (x1.scopes.map rI)), .t (.sl (x1.kids.map Form.row))], .t (.sl (x2.map Form.row))] noOb (.t (.sl (r.map Hit.row))) noOb
theorem m_spec_l5Shape_ok (fuel : Nat) : m_spec_l5Shape_AC fuel := by
 intro x1 x2 r F0
 unfold zeX at F0
 refine AC_i [.t (.sl (r.map Hit.row))] Tryz.func162 rfl Tryz.ntmps162 ?_
 intro C hC
 refine zb (za ?_)
 refine zaF ?_
 refine s_as ?_
 refine zf (zd (zb (za ?_)))
 refine s_bs Hit.row ([] : List Hit) yP30 yR88 ?_
 refine s_as ?_
 refine zf (zd (zb (za ?_)))
 refine s_bs Form.row ([] : List Form) yP35 yR37 ?_
 refine zad yA37 yS37 ?_
 refine s_mv ?_
 obtain ⟨v1, V1, F1⟩ := zc F0
 refine zQ [(9300, 11), (9200, 12014)] [] _ _ (m_spec_l4Vars_ok fuel _ _ _ _ V1) ?_
 refine s_as ?_
 refine zf (zd (zb (za ?_)))
 refine s_bs rI ([] : List Int) yP23 yR3 ?_
 refine zad yA37 yS37 ?_
 refine s_mv ?_
 obtain ⟨v2, V2, F2⟩ := zc F1
 refine zQ [(9300, 15), (9200, 12018)] [] _ _ (zgP fuel _ _ _ _ _ V2) ?_
 refine s_as ?_
 refine zf (zd (zb (zb (za ?_))))
 refine s_as ?_
 refine zf (zd (zl ?_))
 refine zhl 5 10 5020 (by conv => lhs; whnf) (by conv => lhs; whnf) rfl ?_
 refine zbP [5, 8, 9, 19, 20, 21, 22, 23, 24, 25, 26, 27, 28, 29, 30, 31, 32, 33, 34, 35, 36, 37, 38, 39, 40, 41, 42, 43, 44, 45] [5020] [9, 44, 45] [5020] (fun a : Nat × (List Hit) × Int => a.1) (fun a : Nat × (List Hit) × Int => [(5, .ar 5020), (8, .t (.sc (.int .i64 a.2.2)))]) (fun a : Nat × (List Hit) × Int => [(5020, .arr (a.2.1.map Hit.row) 88 true)]) (fun a : Nat × (List Hit) × Int => a.1 ≤ fuel ∧ zbE a.1 v1 v2 a.2.1 a.2.2 = some r ∧ 0 ≤ a.2.2) (fuel, ([] : List Hit), 0) ⟨Nat.le_refl _, F2, by simp⟩ (by rfl) (by rfl) (fun _ => rfl) (zbj (by conv => lhs; whnf) (by rfl) (zbj (by conv => lhs; whnf) (by rfl) zc5)) (zaj (by conv => lhs; whnf) (by rfl) zcz) (zeG hC rfl) (by repeat (first | exact zby rfl | refine zb2 rfl ?_ | refine zaT rfl ?_)) (by repeat (first | exact zcw | exact zbD rfl | refine zb3 rfl ?_ | refine zaU rfl ?_)) ?_
 clear F2
 rintro ⟨fu, g3, g4⟩ ⟨hl5, F3, hn_g4⟩
 dsimp only at hl5 F3 hn_g4 ⊢
 obtain _ | fu := fu
 · rw [zbE] at F3; cases F3
 rw [zbE] at F3
 refine zb (zb (za ?_))
 refine s_mv ?_
 refine s_mv ?_
 refine s_lenA yU35 ?_
 refine s_lt ?_
 refine zf (zd ?_)
 refine zn F3 ?_ ?_ <;> intro C6 F4
 refine awp_lenA 6 12014 (fun B7 => ?_)
 refine zi (zd (zb (zl (zb ?_))))
 refine zaf yMix (by kernel_rfl) ?_
 refine s_mv0 ?_
 refine s_mv ?_
 obtain ⟨v8, V8, F5⟩ := zc F4
 refine s_ixA Form.row V8 yE35 ?_
 refine s_lAN Form.row V8 (Form.row_eq _) yA37 yS37 ?_
 refine s_mv0 ?_
 refine s_mv ?_
 obtain ⟨v9, V9, F6⟩ := zc F5
 refine s_ixA rI V9 yE23 ?_
 refine s_lA1 rI V9 rfl yA3 ?_
 refine s_bld yZ88 yL88 ?_
 refine zU yZ88 ?_
 refine zb4 yS88 ?_
 refine zao (by kernel_rfl) ?_
 refine zd (zb (zb (za ?_)))
 refine s_fa yF88_1 ?_
 refine zp yA3 ?_
 refine s_eq ?_
 refine zf (zd ?_)
 refine zn F6 ?_ ?_ <;> intro C10 F7
 refine za ?_
 refine s_mv ?_
 refine s_mv ?_
 obtain ⟨v11, V11, F8⟩ := zc F7
 refine s_ixA Form.row V11 yE35 ?_
 refine s_lAN Form.row V11 (Form.row_eq _) yA37 yS37 ?_
 refine s_fa yF88_2 ?_
 refine zcY yS37 ?_
 refine zf (zd (za ?_))
 refine s_mv ?_
 refine zad yA88 yS88 ?_
 refine s_bs Hit.row [(Hit.mk v8 v9 v11 ([] : List Hit))] yP30 yR88 ?_
 obtain ⟨hk12, F9⟩ := zaS F8
 refine s_apT Hit.row (fun y => Hit.row_len y) hk12 yP30 ?_
 refine s_as ?_
 refine zf (z6 (zd (za ?_)))
 refine s_mv ?_
 refine zI (zak C6 B7 hn_g4) ?_
 refine s_as ?_
 refine zf ?_
 exact s_rn (fu, (g3 ++ [(Hit.mk v8 v9 v11 ([] : List Hit))]), (g4 + 1)) ⟨by first | omega | (dsimp only; omega), F9, by first | omega | (dsimp only; omega)⟩ [(5020, 45)]
 refine zi (zd (za ?_))
 refine s_mv ?_
 refine zad yA88 yS88 ?_
 refine s_bs Hit.row [(Hit.mk v8 v9 (Form.mk 0 (⟨#[]⟩ : ByteArray) 0 ([] : List Int) ([] : List Form)) ([] : List Hit))] yP30 yR88 ?_
 obtain ⟨hk13, F8⟩ := zaS F7
 refine s_apT Hit.row (fun y => Hit.row_len y) hk13 yP30 ?_
 refine s_as ?_
 refine zf (z6 (zd (za ?_)))
 refine s_mv ?_
 refine zI (zak C6 B7 hn_g4) ?_
 refine s_as ?_
 refine zf ?_
 exact s_rn (fu, (g3 ++ [(Hit.mk v8 v9 (Form.mk 0 (⟨#[]⟩ : ByteArray) 0 ([] : List Int) ([] : List Form)) ([] : List Hit))]), (g4 + 1)) ⟨by first | omega | (dsimp only; omega), F8, by first | omega | (dsimp only; omega)⟩ [(5020, 45)]
 refine zB (zw (zr (zx (zd (zb (za ?_))))))
 refine s_mv ?_
 refine s_as ?_
 refine zf (zd (zh (zm ?_)))
 cases F4
 exact zk [] [5020] Tryz.results162
def m_spec_l4Find_AC (fuel : Nat) : Prop := ∀ (x1 : (List Hit)) (x2 : Form) (r : Int), zgq fuel x1 x2 = some r → AC Tryz.prog 118 [.t (.sl (x1.map Hit.row)), .ag [.t (.sc (.int .i64 x2.kind)), .t (.sc (.str x2.name)), .t (.sc (.int .i64 x2.n)), .t (.sl (x2.scopes.map rI)), .t (.sl (x2.kids.map Form.row))]] noOb (.t (.sc (.int .i64 r))) noOb
theorem m_spec_l4Find_ok (fuel : Nat) : m_spec_l4Find_AC fuel := by
 intro x1 x2 r F0
 unfold zgq at F0
 refine AC_i [.t (.sc (.int .i64 r))] Tryz.func118 rfl Tryz.ntmps118 ?_
 intro C hC
 refine zb (za ?_)
 refine zaF ?_
 refine s_as ?_
 refine zf (zd (zb (zb (za ?_))))
 refine s_as ?_
 refine zf (zd (zl ?_))
 refine zap (β := Int) [4, 5, 6, 7, 8, 9, 10, 11, 12, 13, 14, 15, 16, 17, 18, 19] [] [] (fun a => [(5, .t (.sc (.int .i64 a.2)))]) (fun a => []) (fun a => a.1 ≤ fuel ∧ zcB a.1 x1 x2 a.2 = some r ∧ 0 ≤ a.2) (fuel, 0) ⟨Nat.le_refl _, F0, by simp⟩ ?_
 clear F0
 rintro ⟨fu, g1⟩ ⟨hl2, F1, hn_g1⟩
 dsimp only at hl2 F1 hn_g1 ⊢
 obtain _ | fu := fu
 · rw [zcB] at F1; cases F1
 rw [zcB] at F1
 refine zb (zb (za ?_))
 refine s_mv ?_
 refine s_mv ?_
 refine zE yU30 ?_
 refine s_lt ?_
 refine zf (zd ?_)
 refine zn F1 ?_ ?_ <;> intro C3 F2
 refine zG 0 (fun B4 => ?_)
 refine zi (zd (zb (zl (zb ?_))))
 refine zaf yMix (by kernel_rfl) ?_
 refine s_mv ?_
 refine s_mv ?_
 obtain ⟨v5, V5, F3⟩ := zc F2
 refine zL Hit.row V5 (Hit.row_eq _) yE30 ?_
 refine s_fa yF88_0 ?_
 refine zag yA37 yS37 ?_
 refine zad yA37 yS37 ?_
 obtain ⟨v6, V6, F4⟩ := zc F3
 refine zz [] (zgR fu _ _ _ V6) ?_
 refine zao (by kernel_rfl) ?_
 refine zd ?_
 refine zn F4 ?_ ?_ <;> intro C7 F5
 refine zb (za ?_)
 refine s_mv ?_
 refine s_as ?_
 refine zf (zd (zh (zj (zg (zu (zj (zg (zm ?_))))))))
 cases F5
 exact zk [] [] Tryz.results118
 refine zi (z6 (zd (za ?_)))
 refine s_mv ?_
 refine zI (zak C3 B4 hn_g1) ?_
 refine s_as ?_
 refine zf ?_
 exact s_rn (fu, (g1 + 1)) ⟨by first | omega | (dsimp only; omega), F5, by first | omega | (dsimp only; omega)⟩
 refine zB (zw (zr (zx (zd (zb (za ?_))))))
 refine s_as ?_
 refine zf (zd (zh (zm ?_)))
 cases F2
 exact zk [] [] Tryz.results118
def m_spec_l5Depth_AC (fuel : Nat) : Prop := ∀ (x1 : (List Hit)) (x2 : Form) (r : Int), zek fuel x1 x2 = some r → AC Tryz.prog 175 [.t (.sl (x1.map Hit.row)), .ag [.t (.sc (.int .i64 x2.kind)), .t (.sc (.str x2.name)), .t (.sc (.int .i64 x2.n)), .t (.sl (x2.scopes.map rI)), .t (.sl (x2.kids.map Form.row))]] noOb (.t (.sc (.int .i64 r))) noOb
theorem zhb (fuel : Nat) : m_spec_l5Depth_AC fuel := by
 intro x1 x2 r F0
 unfold zek at F0
 refine AC_i [.t (.sc (.int .i64 r))] Tryz.func175 rfl Tryz.ntmps175 ?_
 intro C hC
 refine zb (za ?_)
 refine zaF ?_
 refine s_as ?_
 refine zf (zd (zb (zb (za ?_))))
 refine s_fa zc8 ?_
 refine zp yA3 ?_
 refine s_ne ?_
 refine zf (zd ?_)
 refine zn F0 ?_ ?_ <;> intro C1 F1
 refine zb (za ?_)
 refine s_as ?_
 refine zf (zd (zh (zg (zm ?_))))
 cases F1
 exact zk [] [] Tryz.results175
 refine zi (zd (zb (za ?_)))
 refine s_mv ?_
 refine zad yA37 yS37 ?_
 obtain ⟨v2, V2, F2⟩ := zc F1
 refine zz [] (m_spec_l4Find_ok fuel _ _ _ V2) ?_
 refine s_as ?_
 refine zf (zd (zb (zb (za ?_))))
 refine s_mv ?_
 refine s_lt ?_
 refine zf (zd ?_)
 refine zn F2 ?_ ?_ <;> intro C3 F3
 refine zb (za ?_)
 refine s_as ?_
 refine zf (zd (zh (zg (zm ?_))))
 cases F3
 exact zk [] [] Tryz.results175
 refine zi (zd (zb (za ?_)))
 refine s_mv ?_
 refine s_mv ?_
 obtain ⟨v4, V4, F4⟩ := zc F3
 refine zL Hit.row V4 (Hit.row_eq _) yE30 ?_
 refine s_fa yF88_1 ?_
 refine zp yA3 ?_
 refine s_as ?_
 refine zf (zd (zh (zm ?_)))
 cases F4
 exact zk [] [] Tryz.results175
def ze9 (fuel : Nat) : Prop := ∀ (x1 : (List Hit)) (x2 : Form) (r : Bool), zdV fuel x1 x2 = some r → AC Tryz.prog 176 [.t (.sl (x1.map Hit.row)), .ag [.t (.sc (.int .i64 x2.kind)), .t (.sc (.str x2.name)), .t (.sc (.int .i64 x2.n)), .t (.sl (x2.scopes.map rI)), .t (.sl (x2.kids.map Form.row))]] noOb (.t (.sc (.bool r))) noOb
theorem m_spec_l5Rows_st (fu : Nat) (ih_m_spec_l5Rows : ∀ k, k ≤ fu → ze9 k) : ze9 (fu + 1) := by
 intro x1 x2 r F0
 rw [zdV] at F0
 refine AC_i [.t (.sc (.bool r))] Tryz.func176 rfl Tryz.ntmps176 ?_
 intro C hC
 refine zb (za ?_)
 refine zaF ?_
 refine s_as ?_
 refine zf (zd (zb (zb (za ?_))))
 refine s_mv ?_
 refine zad yA37 yS37 ?_
 obtain ⟨v1, V1, F1⟩ := zc F0
 refine zz [] (zhb fu _ _ _ V1) ?_
 refine s_gt ?_
 refine zf (zd ?_)
 refine zn F1 ?_ ?_ <;> intro C2 F2
 refine zb (za ?_)
 refine s_as ?_
 refine zf (zd (zh (zg (zm ?_))))
 cases F2
 exact zk [] [] Tryz.results176
 refine zi (zd (zb (zb (za ?_))))
 refine s_as ?_
 refine zf (zd (zl ?_))
 refine zap (β := Int) [4, 5, 10, 11, 12, 13, 14, 15, 16, 17, 18, 19, 20, 21, 22, 23] [] [] (fun a => [(5, .t (.sc (.int .i64 a.2)))]) (fun a => []) (fun a => a.1 ≤ fu ∧ zcc a.1 x1 x2 a.2 = some r ∧ 0 ≤ a.2) (fu, 0) ⟨Nat.le_refl _, F2, by simp⟩ ?_
 clear F2
 rintro ⟨fu, g3⟩ ⟨hl4, F3, hn_g3⟩
 dsimp only at hl4 F3 hn_g3 ⊢
 obtain _ | fu := fu
 · rw [zcc] at F3; cases F3
 rw [zcc] at F3
 refine zb (zb (za ?_))
 refine s_mv ?_
 refine s_fa zZ ?_
 refine zp yA35 ?_
 refine zE yU35 ?_
 refine s_lt ?_
 refine zf (zd ?_)
 refine zn F3 ?_ ?_ <;> intro C5 F4
 refine zG 12 (fun B6 => ?_)
 refine zi (zd (zb (zl (zb (za ?_)))))
 refine s_mv ?_
 refine s_fa zZ ?_
 refine zp yA35 ?_
 refine s_mv ?_
 obtain ⟨v7, V7, F5⟩ := zc F4
 refine zL Form.row V7 (Form.row_eq _) yE35 ?_
 refine zag yA37 yS37 ?_
 obtain ⟨v8, V8, F6⟩ := zc F5
 refine zz [] (ih_m_spec_l5Rows fu (by omega) _ _ _ V8) ?_
 refine zf (zd ?_)
 refine zn F6 ?_ ?_ <;> intro C9 F7
 refine zb (za ?_)
 refine s_as ?_
 refine zf (zd (zh (zj (zg (zu (zj (zg (zm ?_))))))))
 cases F7
 exact zk [] [] Tryz.results176
 refine zi (z6 (zd (za ?_)))
 refine s_mv ?_
 refine zI (zak C5 B6 hn_g3) ?_
 refine s_as ?_
 refine zf ?_
 exact s_rn (fu, (g3 + 1)) ⟨by first | omega | (dsimp only; omega), F7, by first | omega | (dsimp only; omega)⟩
 refine zB (zw (zr (zx (zd (zb (za ?_))))))
 refine s_as ?_
 refine zf (zd (zh (zm ?_)))
 cases F4
 exact zk [] [] Tryz.results176
theorem m_spec_l5Rows_all (fuel : Nat) : ze9 fuel := by
 induction fuel using Nat.strongRecOn with
 | _ N ih =>
   cases N with
   | zero => exact (by intro x1 x2 r h; rw [zdV] at h; cases h)
   | succ fu => exact m_spec_l5Rows_st fu (fun k hk => (ih k (by omega)))
theorem m_spec_l5Rows_ok (fuel : Nat) : ze9 fuel := (m_spec_l5Rows_all fuel)
def m_spec_l5Less_AC (fuel : Nat) : Prop := ∀ (x1 : (List Hit)) (r : (List Hit)), zfC fuel x1 = some r → AC Tryz.prog 177 [.t (.sl (x1.map Hit.row))] noOb (.t (.sl (r.map Hit.row))) noOb
theorem m_spec_l5Less_ok (fuel : Nat) : m_spec_l5Less_AC fuel := by
 intro x1 r F0
 unfold zfC at F0
 refine AC_i [.t (.sl (r.map Hit.row))] Tryz.func177 rfl Tryz.ntmps177 ?_
 intro C hC
 refine zb (za ?_)
 refine s_as ?_
 refine zf (zd (zb (za ?_)))
 refine s_bs Hit.row ([] : List Hit) yP30 yR88 ?_
 refine s_as ?_
 refine zf (zd (zb (zb (za ?_))))
 refine s_as ?_
 refine zf (zd (zl ?_))
 refine zhl 3 6 5020 (by conv => lhs; whnf) (by conv => lhs; whnf) rfl ?_
 refine zbP [3, 4, 5, 7, 8, 9, 10, 11, 12, 13, 14, 15, 16, 17, 18, 19, 20, 21, 22, 23, 24, 25, 26, 27, 28, 29, 30, 31, 32, 33, 34, 35, 36, 37, 38, 39] [5020] [5, 38, 39] [5020] (fun a : Nat × (List Hit) × Int => a.1) (fun a : Nat × (List Hit) × Int => [(3, .ar 5020), (4, .t (.sc (.int .i64 a.2.2)))]) (fun a : Nat × (List Hit) × Int => [(5020, .arr (a.2.1.map Hit.row) 88 true)]) (fun a : Nat × (List Hit) × Int => a.1 ≤ fuel ∧ zbR a.1 x1 a.2.1 a.2.2 = some r ∧ 0 ≤ a.2.2) (fuel, ([] : List Hit), 0) ⟨Nat.le_refl _, F0, by simp⟩ (by rfl) (by rfl) (fun _ => rfl) (zbj (by conv => lhs; whnf) (by rfl) (zbj (by conv => lhs; whnf) (by rfl) zc5)) (zaj (by conv => lhs; whnf) (by rfl) zcz) (zeG hC rfl) (by repeat (first | exact zby rfl | refine zb2 rfl ?_ | refine zaT rfl ?_)) (by repeat (first | exact zcw | exact zbD rfl | refine zb3 rfl ?_ | refine zaU rfl ?_)) ?_
 clear F0
 rintro ⟨fu, g1, g2⟩ ⟨hl3, F1, hn_g2⟩
 dsimp only at hl3 F1 hn_g2 ⊢
 obtain _ | fu := fu
 · rw [zbR] at F1; cases F1
 rw [zbR] at F1
 refine zb (zb (za ?_))
 refine s_mv ?_
 refine s_mv ?_
 refine zE yU30 ?_
 refine s_lt ?_
 refine zf (zd ?_)
 refine zn F1 ?_ ?_ <;> intro C4 F2
 refine zG 0 (fun B5 => ?_)
 refine zi (zd (zb (zl (zb ?_))))
 refine zaf yMix (by kernel_rfl) ?_
 refine s_mv ?_
 refine s_mv ?_
 obtain ⟨v6, V6, F3⟩ := zc F2
 refine zL Hit.row V6 (Hit.row_eq _) yE30 ?_
 refine s_fa yF88_0 ?_
 refine zag yA37 yS37 ?_
 refine s_mv ?_
 refine s_mv ?_
 obtain ⟨v7, V7, F4⟩ := zc F3
 refine zL Hit.row V7 (Hit.row_eq _) yE30 ?_
 refine s_fa yF88_1 ?_
 refine zp yA3 ?_
 refine s_mv ?_
 refine s_mv ?_
 obtain ⟨v8, V8, F5⟩ := zc F4
 refine zL Hit.row V8 (Hit.row_eq _) yE30 ?_
 refine s_fa yF88_2 ?_
 refine zag yA37 yS37 ?_
 refine s_bld yZ88 yL88 ?_
 refine zU yZ88 ?_
 refine zb4 yS88 ?_
 refine zao (by kernel_rfl) ?_
 refine zd (zb (zb (za ?_)))
 refine s_fa yF88_1 ?_
 refine zp yA3 ?_
 refine s_gt ?_
 refine zf (zd ?_)
 refine zn F5 ?_ ?_ <;> intro C9 F6
 refine za ?_
 refine s_fa yF88_1 ?_
 refine zp yA3 ?_
 refine s_sub rfl ?_
 refine s_fa yF88_1 ?_
 refine zcY yS3 ?_
 refine zf (zd (za ?_))
 refine s_mv ?_
 refine zad yA88 yS88 ?_
 refine s_bs Hit.row [(Hit.mk v6.name (w64 (v7.depth - 1)) v8.one ([] : List Hit))] yP30 yR88 ?_
 obtain ⟨hk10, F7⟩ := zaS F6
 refine s_apT Hit.row (fun y => Hit.row_len y) hk10 yP30 ?_
 refine s_as ?_
 refine zf (z6 (zd (za ?_)))
 refine s_mv ?_
 refine zI (zak C4 B5 hn_g2) ?_
 refine s_as ?_
 refine zf ?_
 exact s_rn (fu, (g1 ++ [(Hit.mk v6.name (w64 (v7.depth - 1)) v8.one ([] : List Hit))]), (g2 + 1)) ⟨by first | omega | (dsimp only; omega), F7, by first | omega | (dsimp only; omega)⟩ [(5020, 39)]
 refine zi (zd (za ?_))
 refine s_mv ?_
 refine zad yA88 yS88 ?_
 refine s_bs Hit.row [(Hit.mk v6.name v7.depth v8.one ([] : List Hit))] yP30 yR88 ?_
 obtain ⟨hk11, F7⟩ := zaS F6
 refine s_apT Hit.row (fun y => Hit.row_len y) hk11 yP30 ?_
 refine s_as ?_
 refine zf (z6 (zd (za ?_)))
 refine s_mv ?_
 refine zI (zak C4 B5 hn_g2) ?_
 refine s_as ?_
 refine zf ?_
 exact s_rn (fu, (g1 ++ [(Hit.mk v6.name v7.depth v8.one ([] : List Hit))]), (g2 + 1)) ⟨by first | omega | (dsimp only; omega), F7, by first | omega | (dsimp only; omega)⟩ [(5020, 39)]
 refine zB (zw (zr (zx (zd (zb (za ?_))))))
 refine s_mv ?_
 refine s_as ?_
 refine zf (zd (zh (zm ?_)))
 cases F2
 exact zk [] [5020] Tryz.results177
def zfZ (fuel : Nat) : Prop := ∀ (x1 : Form) (x2 : (List Hit)) (r : Bool), zdu fuel x1 x2 = some r → AC Tryz.prog 161 [.ag [.t (.sc (.int .i64 x1.kind)), .t (.sc (.str x1.name)), .t (.sc (.int .i64 x1.n)), .t (.sl (x1.scopes.map rI)), .t (.sl (x1.kids.map Form.row))], .t (.sl (x2.map Hit.row))] noOb (.t (.sc (.bool r))) noOb
theorem m_spec_l5Is_st (fu : Nat) (ih_m_spec_l5Is : ∀ k, k ≤ fu → zfZ k) : zfZ (fu + 1) := by
 intro x1 x2 r F0
 rw [zdu] at F0
 refine AC_i [.t (.sc (.bool r))] Tryz.func161 rfl Tryz.ntmps161 ?_
 intro C hC
 refine zb (za ?_)
 refine zaF ?_
 refine s_as ?_
 refine zf (zd (zb (zb (za ?_))))
 refine zad yA37 yS37 ?_
 obtain ⟨v1, V1, F1⟩ := zc F0
 refine zz [] (zbS fu _ _ V1) ?_
 refine s_mv ?_
 refine zy _ 8 F1 ?_ ?_ <;> intro C2 F2
 iterate 4 refine r_no rfl ?_
 refine zC ?_
 refine zf (zd (zM rfl (zb (za ?_))))
 refine s_as ?_
 refine zf (zd (zh (zg (zm ?_))))
 cases F2
 exact zk [] [] Tryz.results161
 refine s_mv ?_
 refine zad yA37 yS37 ?_
 obtain ⟨v3, V3, F3⟩ := zc F2
 refine zz [] (zhb fu _ _ _ V3) ?_
 refine s_gt ?_
 refine zF ?_
 refine zf (zd ?_)
 refine zn F3 ?_ ?_ <;> intro C4 F4
 refine zb (za ?_)
 refine s_as ?_
 refine zf (zd (zh (zg (zm ?_))))
 cases F4
 exact zk [] [] Tryz.results161
 refine zi (zd (zb (zb (za ?_))))
 refine s_as ?_
 refine zf (zd (zl ?_))
 refine zap (β := Int) [4, 5, 14, 15, 16, 17, 18, 19, 20, 21, 22, 23, 24, 25, 26, 27, 28, 29, 30, 31, 32, 33, 34, 35, 36, 37, 38, 39, 40, 41, 42, 43, 44, 45, 46, 47, 48, 49, 50, 51, 52, 53, 54, 55, 56, 57, 58, 59, 60, 61, 62, 63, 64, 65, 66, 67, 68, 69, 70, 71, 72, 73, 74, 75, 76, 77, 78, 79] [] [] (fun a => [(5, .t (.sc (.int .i64 a.2)))]) (fun a => []) (fun a => a.1 ≤ fu ∧ zbz a.1 x1 x2 a.2 = some r ∧ 0 ≤ a.2) (fu, 0) ⟨Nat.le_refl _, F4, by simp⟩ ?_
 clear F4
 rintro ⟨fu, g5⟩ ⟨hl6, F5, hn_g5⟩
 dsimp only at hl6 F5 hn_g5 ⊢
 obtain _ | fu := fu
 · rw [zbz] at F5; cases F5
 rw [zbz] at F5
 refine zb (zb (za ?_))
 refine s_mv ?_
 refine s_fa zZ ?_
 refine zp yA35 ?_
 refine zE yU35 ?_
 refine s_lt ?_
 refine zf (zd ?_)
 refine zn F5 ?_ ?_ <;> intro C7 F6
 refine zG 16 (fun B8 => ?_)
 refine zi (zd (zb (zl (zb (zb (za ?_))))))
 refine s_fa zZ ?_
 refine zp yA35 ?_
 refine s_mv ?_
 obtain ⟨v9, V9, F7⟩ := zc F6
 refine zL Form.row V9 (Form.row_eq _) yE35 ?_
 refine zag yA37 yS37 ?_
 obtain ⟨v10, V10, F8⟩ := zc F7
 refine zz [] (zbS fu _ _ V10) ?_
 refine zf (zd ?_)
 refine zn F8 ?_ ?_ <;> intro C11 F9
 refine zb (zb (za ?_))
 refine s_mv ?_
 refine s_eq ?_
 refine s_mv ?_
 refine zy _ 29 F9 ?_ ?_ <;> intro C12 F10
 iterate 7 refine r_no rfl ?_
 refine zC ?_
 refine zf (zd (zM rfl (zb (za ?_))))
 refine s_as ?_
 refine zf (zd (zh (zg (zg (zj (zg (zu (zj (zg (zm ?_))))))))))
 cases F10
 exact zk [] [] Tryz.results161
 refine s_fa zZ ?_
 refine zp yA35 ?_
 refine s_mv ?_
 refine s_sub rfl ?_
 obtain ⟨v13, V13, F11⟩ := zc F10
 refine zL Form.row V13 (Form.row_eq _) yE35 ?_
 refine zag yA37 yS37 ?_
 obtain ⟨v14, V14, F12⟩ := zc F11
 refine zz [] (zbS fu _ _ V14) ?_
 refine zF ?_
 refine zf (zd ?_)
 refine zn F12 ?_ ?_ <;> intro C15 F13
 refine zb (za ?_)
 refine s_as ?_
 refine zf (zd (zh (zg (zg (zj (zg (zu (zj (zg (zm ?_))))))))))
 cases F13
 exact zk [] [] Tryz.results161
 refine zi (zd (zB (zw (zx (zd (za ?_))))))
 refine s_mv ?_
 refine zI (zak C7 B8 hn_g5) ?_
 refine s_as ?_
 refine zf ?_
 exact s_rn (fu, (g5 + 1)) ⟨by first | omega | (dsimp only; omega), F13, by first | omega | (dsimp only; omega)⟩
 refine zi (zd (zb (zb (za ?_))))
 refine s_mv ?_
 refine zI (zak C7 B8 hn_g5) ?_
 refine s_fa zZ ?_
 refine zp yA35 ?_
 refine zE yU35 ?_
 refine s_lt ?_
 refine s_mv ?_
 refine zy _ 44 F9 ?_ ?_ <;> intro C16 F10
 refine s_fa zZ ?_
 refine zp yA35 ?_
 refine s_mv ?_
 refine zI (zak C7 B8 hn_g5) ?_
 obtain ⟨v17, V17, F11⟩ := zc F10
 refine zL Form.row V17 (Form.row_eq _) yE35 ?_
 refine zag yA37 yS37 ?_
 obtain ⟨v18, V18, F12⟩ := zc F11
 refine zz [] (zbS fu _ _ V18) ?_
 refine zC ?_
 refine zf (zd ?_)
 refine zn F12 ?_ ?_ <;> intro C19 F13
 refine zb (zb ?_)
 refine zaf yMix (by kernel_rfl) ?_
 refine s_mv ?_
 refine s_fa zZ ?_
 refine zp yA35 ?_
 refine s_mv ?_
 obtain ⟨v20, V20, F14⟩ := zc F13
 refine zL Form.row V20 (Form.row_eq _) yE35 ?_
 refine zag yA37 yS37 ?_
 obtain ⟨v21, V21, F15⟩ := zc F14
 refine zz [] (m_spec_l5Rows_ok fu _ _ _ V21) ?_
 refine zbC ?_
 refine s_mv ?_
 refine zy _ 61 F15 ?_ ?_ <;> intro C22 F16
 iterate 9 refine r_no rfl ?_
 refine zC ?_
 refine zao (by kernel_rfl) ?_
 refine zd (zM rfl (zb (za ?_)))
 refine s_as ?_
 refine zf (zd (zh (zg (zg (zj (zg (zu (zj (zg (zm ?_))))))))))
 cases F16
 exact zk [] [] Tryz.results161
 refine s_fa zZ ?_
 refine zp yA35 ?_
 refine s_mv ?_
 obtain ⟨v23, V23, F17⟩ := zc F16
 refine zL Form.row V23 (Form.row_eq _) yE35 ?_
 refine zag yA37 yS37 ?_
 refine s_mv ?_
 obtain ⟨v24, V24, F18⟩ := zc F17
 refine zz [] (m_spec_l5Less_ok fu _ _ V24) ?_
 obtain ⟨v25, V25, F19⟩ := zc F18
 refine zz [] (ih_m_spec_l5Is fu (by omega) _ _ _ V25) ?_
 refine zbC ?_
 refine zF ?_
 refine zao (by kernel_rfl) ?_
 refine zd ?_
 refine zn F19 ?_ ?_ <;> intro C26 F20
 refine zb (za ?_)
 refine s_as ?_
 refine zf (zd (zh (zg (zg (zj (zg (zu (zj (zg (zm ?_))))))))))
 cases F20
 exact zk [] [] Tryz.results161
 refine zi (zd (zB (zw (zx (zd (za ?_))))))
 refine s_mv ?_
 refine zI (zak C7 B8 hn_g5) ?_
 refine s_as ?_
 refine zf ?_
 exact s_rn (fu, (g5 + 1)) ⟨by first | omega | (dsimp only; omega), F20, by first | omega | (dsimp only; omega)⟩
 refine zi (zd (zb (za ?_)))
 refine s_fa zZ ?_
 refine zp yA35 ?_
 refine s_mv ?_
 obtain ⟨v27, V27, F14⟩ := zc F13
 refine zL Form.row V27 (Form.row_eq _) yE35 ?_
 refine zag yA37 yS37 ?_
 refine s_mv ?_
 obtain ⟨v28, V28, F15⟩ := zc F14
 refine zz [] (ih_m_spec_l5Is fu (by omega) _ _ _ V28) ?_
 refine zbC ?_
 refine zf (zd ?_)
 refine zn F15 ?_ ?_ <;> intro C29 F16
 refine zb (za ?_)
 refine s_as ?_
 refine zf (zd (zh (zj (zg (zu (zj (zg (zm ?_))))))))
 cases F16
 exact zk [] [] Tryz.results161
 refine zi (z6 (zd (za ?_)))
 refine s_mv ?_
 refine zI (zak C7 B8 hn_g5) ?_
 refine s_as ?_
 refine zf ?_
 exact s_rn (fu, (g5 + 1)) ⟨by first | omega | (dsimp only; omega), F16, by first | omega | (dsimp only; omega)⟩
 iterate 7 refine r_no rfl ?_
 refine zF ?_
 refine zf (zd (zci rfl (zi (zd (zb (za ?_))))))
 refine s_fa zZ ?_
 refine zp yA35 ?_
 refine s_mv ?_
 obtain ⟨v30, V30, F11⟩ := zc F10
 refine zL Form.row V30 (Form.row_eq _) yE35 ?_
 refine zag yA37 yS37 ?_
 refine s_mv ?_
 obtain ⟨v31, V31, F12⟩ := zc F11
 refine zz [] (ih_m_spec_l5Is fu (by omega) _ _ _ V31) ?_
 refine zbC ?_
 refine zf (zd ?_)
 refine zn F12 ?_ ?_ <;> intro C32 F13
 refine zb (za ?_)
 refine s_as ?_
 refine zf (zd (zh (zj (zg (zu (zj (zg (zm ?_))))))))
 cases F13
 exact zk [] [] Tryz.results161
 refine zi (z6 (zd (za ?_)))
 refine s_mv ?_
 refine zI (zak C7 B8 hn_g5) ?_
 refine s_as ?_
 refine zf ?_
 exact s_rn (fu, (g5 + 1)) ⟨by first | omega | (dsimp only; omega), F13, by first | omega | (dsimp only; omega)⟩
 refine zB (zw (zr (zx (zd (zb (za ?_))))))
 refine s_as ?_
 refine zf (zd (zh (zm ?_)))
 cases F6
 exact zk [] [] Tryz.results161
theorem m_spec_l5Is_all (fuel : Nat) : zfZ fuel := by
 induction fuel using Nat.strongRecOn with
 | _ N ih =>
   cases N with
   | zero => exact (by intro x1 x2 r h; rw [zdu] at h; cases h)
   | succ fu => exact m_spec_l5Is_st fu (fun k hk => (ih k (by omega)))
theorem m_spec_l5Is_ok (fuel : Nat) : zfZ fuel := (m_spec_l5Is_all fuel)
def m_spec_l5Rule_AC (fuel : Nat) : Prop := ∀ (x1 : Rule) (x2 : (List Form)) (r : Bool), zcM fuel x1 x2 = some r → AC Tryz.prog 141 [.ag [.t (.sc (.int .i64 x1.pattern.kind)), .t (.sc (.str x1.pattern.name)), .t (.sc (.int .i64 x1.pattern.n)), .t (.sl (x1.pattern.scopes.map rI)), .t (.sl (x1.pattern.kids.map Form.row)), .t (.sc (.int .i64 x1.template.kind)), .t (.sc (.str x1.template.name)), .t (.sc (.int .i64 x1.template.n)), .t (.sl (x1.template.scopes.map rI)), .t (.sl (x1.template.kids.map Form.row))], .t (.sl (x2.map Form.row))] noOb (.t (.sc (.bool r))) noOb
theorem m_spec_l5Rule_ok (fuel : Nat) : m_spec_l5Rule_AC fuel := by
 intro x1 x2 r F0
 unfold zcM at F0
 refine AC_i [.t (.sc (.bool r))] Tryz.func141 rfl Tryz.ntmps141 ?_
 intro C hC
 refine zb (za ?_)
 refine zaF ?_
 refine s_as ?_
 refine zf (zd (zb ?_))
 refine zaf yMix (by kernel_rfl) ?_
 refine s_fa zd3 ?_
 refine zag yA37 yS37 ?_
 refine s_mv ?_
 obtain ⟨v1, V1, F1⟩ := zc F0
 refine zz [] (m_spec_l4Is_ok fuel _ _ _ V1) ?_
 refine s_mv ?_
 refine zy _ 9 F1 ?_ ?_ <;> intro C2 F2
 refine s_fa zd3 ?_
 refine s_fa zc8 ?_
 refine zp yA3 ?_
 refine s_eq ?_
 refine zC ?_
 refine s_mv ?_
 refine zy _ 15 F2 ?_ ?_ <;> intro C3 F3
 refine s_fa zd3 ?_
 refine s_fa zZ ?_
 refine zp yA35 ?_
 refine zE yU35 ?_
 refine s_gt ?_
 refine zC ?_
 refine s_mv ?_
 refine zy _ 22 F3 ?_ ?_ <;> intro C4 F4
 refine s_fa zfr ?_
 refine zag yA37 yS37 ?_
 obtain ⟨v5, V5, F5⟩ := zc F4
 refine zz [] (zfk fuel _ _ V5) ?_
 refine zC ?_
 refine s_mv ?_
 refine zy _ 27 F5 ?_ ?_ <;> intro C6 F6
 refine s_fa zfr ?_
 refine zag yA37 yS37 ?_
 refine s_fa zd3 ?_
 refine zag yA37 yS37 ?_
 refine s_mv ?_
 obtain ⟨v7, V7, F7⟩ := zc F6
 refine zz [] (m_spec_l5Shape_ok fuel _ _ _ V7) ?_
 obtain ⟨v8, V8, F8⟩ := zc F7
 refine zz [] (m_spec_l5Is_ok fuel _ _ _ V8) ?_
 refine zC ?_
 refine s_as ?_
 refine zao (by kernel_rfl) ?_
 refine zd (zh (zm ?_))
 cases F8
 exact zk [] [] Tryz.results141
 iterate 7 refine r_no rfl ?_
 refine zF ?_
 refine s_as ?_
 refine zao (by kernel_rfl) ?_
 refine zd (zh (zm ?_))
 cases F6
 exact zk [] [] Tryz.results141
 iterate 3 refine r_no rfl ?_
 refine zF ?_
 refine s_mv ?_
 iterate 7 refine r_no rfl ?_
 refine zF ?_
 refine s_as ?_
 refine zao (by kernel_rfl) ?_
 refine zd (zh (zm ?_))
 cases F4
 exact zk [] [] Tryz.results141
 iterate 5 refine r_no rfl ?_
 refine zF ?_
 refine s_mv ?_
 iterate 3 refine r_no rfl ?_
 refine zF ?_
 refine s_mv ?_
 iterate 7 refine r_no rfl ?_
 refine zF ?_
 refine s_as ?_
 refine zao (by kernel_rfl) ?_
 refine zd (zh (zm ?_))
 cases F3
 exact zk [] [] Tryz.results141
 iterate 4 refine r_no rfl ?_
 refine zF ?_
 refine s_mv ?_
 iterate 5 refine r_no rfl ?_
 refine zF ?_
 refine s_mv ?_
 iterate 3 refine r_no rfl ?_
 refine zF ?_
 refine s_mv ?_
 iterate 7 refine r_no rfl ?_
 refine zF ?_
 refine s_as ?_
 refine zao (by kernel_rfl) ?_
 refine zd (zh (zm ?_))
 cases F2
 exact zk [] [] Tryz.results141
def m_spec_l5Rules_AC (fuel : Nat) : Prop := ∀ (x1 : (List Rule)) (x2 : (List Form)) (r : Bool), zeY fuel x1 x2 = some r → AC Tryz.prog 111 [.t (.sl (x1.map Rule.row)), .t (.sl (x2.map Form.row))] noOb (.t (.sc (.bool r))) noOb
theorem m_spec_l5Rules_ok (fuel : Nat) : m_spec_l5Rules_AC fuel := by
 intro x1 x2 r F0
 unfold zeY at F0
 refine AC_i [.t (.sc (.bool r))] Tryz.func111 rfl Tryz.ntmps111 ?_
 intro C hC
 refine zb (za ?_)
 refine s_as ?_
 refine zf (zd (zb (zb (za ?_))))
 refine s_as ?_
 refine zf (zd (zl ?_))
 refine zap (β := Int) [4, 5, 6, 7, 8, 9, 10, 11, 12, 13, 14, 15, 16, 17, 18, 19, 20, 21, 22] [] [] (fun a => [(5, .t (.sc (.int .i64 a.2)))]) (fun a => []) (fun a => a.1 ≤ fuel ∧ zbW a.1 x1 x2 a.2 = some r) (fuel, 0) ⟨Nat.le_refl _, F0⟩ ?_
 clear F0
 rintro ⟨fu, g1⟩ ⟨hl2, F1⟩
 dsimp only at hl2 F1 ⊢
 obtain _ | fu := fu
 · rw [zbW] at F1; cases F1
 rw [zbW] at F1
 refine zb ?_
 refine zgd (α := Nat × Bool) [6, 7, 8, 9, 10, 11, 12, 13] [] [] (fun a => [(13, .t (.sc (.bool a.2)))]) (fun a => []) (fun a => a.1 ≤ fu ∧ zbX a.1 x1 x2 g1 a.2 = some r) ?_ ?_
 refine za ?_
 refine s_mv ?_
 refine s_mv ?_
 refine zE yU53 ?_
 refine s_lt ?_
 refine s_mv ?_
 refine zy _ 10 F1 ?_ ?_ <;> intro C3 F2
 refine s_mv ?_
 refine s_lt ?_
 refine zC ?_
 refine zf ?_
 exact s_jn (fu, (decide (g1 < 10))) ⟨by first | omega | (dsimp only; omega), F2⟩
 refine r_no rfl (r_no rfl ?_)
 refine zF ?_
 refine zf ?_
 exact s_jn (fu, false) ⟨by first | omega | (dsimp only; omega), F2⟩
 clear F1
 rintro ⟨fu, g4⟩ ⟨hl5, F2⟩
 dsimp only at hl5 F2 ⊢
 obtain _ | fu := fu
 · rw [zbX] at F2; cases F2
 rw [zbX] at F2
 refine zn F2 ?_ ?_ <;> intro C6 F3
 refine zi (zd (zb (zl (zb (za ?_)))))
 refine s_mv ?_
 refine s_mv ?_
 obtain ⟨v7, V7, F4⟩ := zc F3
 refine zL Rule.row V7 (Rule.row_eq _) yE53 ?_
 refine zag yA96 yS96 ?_
 refine s_mv ?_
 obtain ⟨v8, V8, F5⟩ := zc F4
 refine zz [] (m_spec_l5Rule_ok fu _ _ _ V8) ?_
 refine zbC ?_
 refine zf (zd ?_)
 refine zn F5 ?_ ?_ <;> intro C9 F6
 refine zb (za ?_)
 refine s_as ?_
 refine zf (zd (zh (zj (zg (zu (zj (zg (zm ?_))))))))
 cases F6
 exact zk [] [] Tryz.results111
 refine zi (z6 (zd (za ?_)))
 refine s_mv ?_
 refine zI rfl ?_
 refine s_as ?_
 refine zf ?_
 exact s_rn (fu, (w64 (g1 + 1))) ⟨by first | omega | (dsimp only; omega), F6⟩
 refine zB (zw (zr (zx (zd (zb (za ?_))))))
 refine s_mv ?_
 refine zE yU53 ?_
 refine s_lt ?_
 refine s_mv ?_
 refine zy _ 26 F3 ?_ ?_ <;> intro C10 F4
 refine s_mv ?_
 obtain ⟨v11, V11, F5⟩ := zc F4
 refine zz [] (zgj fu _ _ V11) ?_
 refine zC ?_
 refine s_as ?_
 refine zf (zd (zh (zm ?_)))
 cases F5
 exact zk [] [] Tryz.results111
 refine r_no rfl (r_no rfl ?_)
 refine zF ?_
 refine s_as ?_
 refine zf (zd (zh (zm ?_)))
 cases F4
 exact zk [] [] Tryz.results111
end Go.Abs
