/- A part of the proof: what the functions that the law calls answer, as pure values. -/
import Derived.Test.YtcebadpiebamdaaGreatKfbd980a3bd19
import Derived.Test.YtcebadpiebamdaaGreatK423f84c32d54
import Derived.Test.YtcebadpiebamdaaGreatKcd36416719db
import Derived.Test.YtcebadpiebamdaaGreatKf37186a4b7f9
import Derived.Test.YtcebadpiebamdaaGreatK2460314a2bd5
import Derived.Test.YtcebadpiebamdaaGreatKf8de2f3a577a
set_option linter.unusedSimpArgs false
set_option linter.unusedVariables false
set_option maxRecDepth 100000
set_option maxHeartbeats 4000000
namespace Go.Abs
open Go.Proofs
def zhd (fuel : Nat) : Prop := ∀ (x1 : zv) (r : Bool), zct fuel x1 = some r → AC Tryz.prog 61 [.ag [.t (.sl (x1.binds.map Bind.row)), .t (.sl (x1.macros.map zq.row)), .t (.sc (.int .i64 x1.scope)), .t (.sc (.int .i64 x1.id)), .t (.sc (.int .i64 x1.steps))]] noOb (.t (.sc (.bool r))) noOb
theorem zhc (fuel : Nat) : zhd fuel := by
 intro x1 r F0
 unfold zct at F0
 refine AC_i [.t (.sc (.bool r))] Tryz.func61 rfl Tryz.ntmps61 ?_
 intro C hC
 refine zb (za ?_)
 refine zaF ?_
 refine s_as ?_
 refine zf (zd (zb ?_))
 refine zgd (α := Nat × Bool) [5, 6, 7, 8, 9, 10, 11, 12, 13, 14, 15, 16, 17, 18, 19, 20, 21, 22, 23, 24, 25, 26, 27, 28, 29, 30, 31, 32] [] [] (fun a => [(32, .t (.sc (.bool a.2)))]) (fun a => []) (fun a => a.1 ≤ fuel ∧ zaa a.1 x1 a.2 = some r) ?_ ?_
 refine za ?_
 refine s_fa yF60_0 ?_
 refine zp yA33 ?_
 obtain ⟨v1, V1, F1⟩ := zc F0
 refine zz [] (m_spec_BindsValid_ok fuel _ _ V1) ?_
 refine zbC ?_
 refine s_mv ?_
 refine zy _ 9 F1 ?_ ?_ <;> intro C2 F2
 iterate 4 refine r_no rfl ?_
 refine zC ?_
 refine s_mv ?_
 iterate 4 refine r_no rfl ?_
 refine zC ?_
 refine s_mv ?_
 iterate 4 refine r_no rfl ?_
 refine zC ?_
 refine s_mv ?_
 iterate 4 refine r_no rfl ?_
 refine zC ?_
 refine zf ?_
 exact s_jn (fuel, true) ⟨by first | omega | (dsimp only; omega), F2⟩
 refine s_fa zd4 ?_
 refine zp yA58 ?_
 refine zE yU58 ?_
 refine s_gt ?_
 refine zF ?_
 refine s_mv ?_
 refine zy _ 15 F2 ?_ ?_ <;> intro C3 F3
 iterate 4 refine r_no rfl ?_
 refine zC ?_
 refine s_mv ?_
 iterate 4 refine r_no rfl ?_
 refine zC ?_
 refine s_mv ?_
 iterate 4 refine r_no rfl ?_
 refine zC ?_
 refine zf ?_
 exact s_jn (fuel, true) ⟨by first | omega | (dsimp only; omega), F3⟩
 refine s_fa yF60_2 ?_
 refine zp yA3 ?_
 obtain ⟨v4, V4, F4⟩ := zc F3
 refine zz [] (zgY fuel _ _ _ _ V4) ?_
 refine zbC ?_
 refine zF ?_
 refine s_mv ?_
 refine zy _ 21 F4 ?_ ?_ <;> intro C5 F5
 iterate 4 refine r_no rfl ?_
 refine zC ?_
 refine s_mv ?_
 iterate 4 refine r_no rfl ?_
 refine zC ?_
 refine zf ?_
 exact s_jn (fuel, true) ⟨by first | omega | (dsimp only; omega), F5⟩
 refine s_fa yF60_3 ?_
 refine zp yA3 ?_
 obtain ⟨v6, V6, F6⟩ := zc F5
 refine zz [] (zgY fuel _ _ _ _ V6) ?_
 refine zbC ?_
 refine zF ?_
 refine s_mv ?_
 refine zy _ 27 F6 ?_ ?_ <;> intro C7 F7
 iterate 4 refine r_no rfl ?_
 refine zC ?_
 refine zf ?_
 exact s_jn (fuel, true) ⟨by first | omega | (dsimp only; omega), F7⟩
 refine s_fa yF60_4 ?_
 refine zp yA3 ?_
 obtain ⟨v8, V8, F8⟩ := zc F7
 refine zz [] (zgY fuel _ _ _ _ V8) ?_
 refine zbC ?_
 refine zF ?_
 refine zf ?_
 exact s_jn (fuel, (!v8)) ⟨by first | omega | (dsimp only; omega), F8⟩
 clear F0
 rintro ⟨fu, g9⟩ ⟨hl10, F1⟩
 dsimp only at hl10 F1 ⊢
 obtain _ | fu := fu
 · rw [zaa] at F1; cases F1
 rw [zaa] at F1
 refine zn F1 ?_ ?_ <;> intro C11 F2
 refine zb (za ?_)
 refine s_as ?_
 refine zf (zd (zh (zg (zm ?_))))
 cases F2
 exact zk [] [] Tryz.results61
 refine zi (zd ?_)
 refine zgd (α := Nat) [2, 3, 33, 34, 35, 36, 37, 38, 39, 40, 41, 42, 43, 44, 45, 46, 47, 48, 49, 50, 51, 52, 53, 54, 55, 56, 57, 58, 59, 60, 61, 62, 63, 64, 65, 66] [] [] (fun a => []) (fun a => []) (fun a => a ≤ fu ∧ zbZ a x1  = some r) ?_ ?_
 refine zb (za ?_)
 refine s_as ?_
 refine zf (zd (zl ?_))
 refine zap (β := Int) [2, 3, 33, 34, 35, 36, 37, 38, 39, 40, 41, 42, 43, 44, 45, 46, 47, 48, 49, 50, 51, 52, 53, 54, 55, 56, 57, 58, 59, 60, 61, 62, 63, 64, 65, 66] [] [] (fun a => [(3, .t (.sc (.int .i64 a.2)))]) (fun a => []) (fun a => a.1 ≤ fu ∧ z8 a.1 x1 a.2 = some r ∧ 0 ≤ a.2) (fu, 0) ⟨Nat.le_refl _, F2, by simp⟩ ?_
 clear F2
 rintro ⟨fu, g12⟩ ⟨hl13, F3, hn_g12⟩
 dsimp only at hl13 F3 hn_g12 ⊢
 obtain _ | fu := fu
 · rw [z8] at F3; cases F3
 rw [z8] at F3
 refine zb (zb (za ?_))
 refine s_mv ?_
 refine s_fa yF60_0 ?_
 refine zp yA33 ?_
 refine zE yU33 ?_
 refine s_lt ?_
 refine zf (zd ?_)
 refine zn F3 ?_ ?_ <;> intro C14 F4
 refine zG 35 (fun B15 => ?_)
 refine zi (zd (zb (zl (zb ?_))))
 refine zaf yMix (by kernel_rfl) ?_
 refine s_fa yF60_0 ?_
 refine zp yA33 ?_
 refine s_mv ?_
 obtain ⟨v16, V16, F5⟩ := zc F4
 refine zL Bind.row V16 (Bind.row_eq _) yE33 ?_
 refine s_fa zg7 ?_
 refine zp yA3 ?_
 refine s_fa yF60_3 ?_
 refine zp yA3 ?_
 refine s_gt ?_
 refine s_mv ?_
 refine zy _ 49 F5 ?_ ?_ <;> intro C17 F6
 iterate 16 refine r_no rfl ?_
 refine zC ?_
 refine zao (by kernel_rfl) ?_
 refine zd (zM rfl (zb (za ?_)))
 refine s_as ?_
 refine zf (zd (zh (zj (zg (zu (zj (k_jn_ret (zm ?_))))))))
 cases F6
 exact zk [] [] Tryz.results61
 refine s_fa yF60_0 ?_
 refine zp yA33 ?_
 refine s_mv ?_
 obtain ⟨v18, V18, F7⟩ := zc F6
 refine zL Bind.row V18 (Bind.row_eq _) yE33 ?_
 refine s_fa zg7 ?_
 refine zp yA3 ?_
 refine s_gt ?_
 refine s_mv ?_
 refine zy _ 57 F7 ?_ ?_ <;> intro C19 F8
 refine s_fa yF60_0 ?_
 refine zp yA33 ?_
 refine s_mv ?_
 obtain ⟨v20, V20, F9⟩ := zc F8
 refine zL Bind.row V20 (Bind.row_eq _) yE33 ?_
 refine s_fa zg7 ?_
 refine zp yA3 ?_
 refine s_le ?_
 refine zC ?_
 refine zF ?_
 refine zao (by kernel_rfl) ?_
 refine zd ?_
 refine zn F9 ?_ ?_ <;> intro C21 F10
 refine zb (za ?_)
 refine s_as ?_
 refine zf (zd (zh (zj (zg (zu (zj (k_jn_ret (zm ?_))))))))
 cases F10
 exact zk [] [] Tryz.results61
 refine zi (z6 (zd (za ?_)))
 refine s_mv ?_
 refine zI (zak C14 B15 hn_g12) ?_
 refine s_as ?_
 refine zf ?_
 exact s_rn (fu, (g12 + 1)) ⟨by first | omega | (dsimp only; omega), F10, by first | omega | (dsimp only; omega)⟩
 iterate 7 refine r_no rfl ?_
 refine zF ?_
 refine zF ?_
 refine zao (by kernel_rfl) ?_
 refine zd (zci rfl (zi (z6 (zd (za ?_)))))
 refine s_mv ?_
 refine zI (zak C14 B15 hn_g12) ?_
 refine s_as ?_
 refine zf ?_
 exact s_rn (fu, (g12 + 1)) ⟨by first | omega | (dsimp only; omega), F8, by first | omega | (dsimp only; omega)⟩
 refine zB (zw (zr (zx ?_)))
 exact s_jn (fu) ⟨by first | omega | (dsimp only; omega), F4⟩
 clear F2
 rintro fu ⟨hl22, F3⟩
 obtain _ | fu := fu
 · rw [zbZ] at F3; cases F3
 rw [zbZ] at F3
 refine zb (zb (za ?_))
 refine s_as ?_
 refine zf (zd (zl ?_))
 refine zap (β := Int) [2, 4, 67, 68, 69, 70, 71, 72, 73, 74, 75, 76, 77, 78, 79, 80, 81, 82, 83, 84, 85, 86, 87, 88, 89, 90, 91, 92, 93, 94, 95, 96, 97, 98, 99, 100, 101, 102, 103, 104, 105, 106, 107, 108, 109, 110, 111, 112, 113, 114, 115, 116, 117, 118, 119] [] [] (fun a => [(4, .t (.sc (.int .i64 a.2)))]) (fun a => []) (fun a => a.1 ≤ fu ∧ zal a.1 x1 a.2 = some r ∧ 0 ≤ a.2) (fu, 0) ⟨Nat.le_refl _, F3, by simp⟩ ?_
 clear F3
 rintro ⟨fu, g23⟩ ⟨hl24, F4, hn_g23⟩
 dsimp only at hl24 F4 hn_g23 ⊢
 obtain _ | fu := fu
 · rw [zal] at F4; cases F4
 rw [zal] at F4
 refine zb (zb (za ?_))
 refine s_mv ?_
 refine s_fa zd4 ?_
 refine zp yA58 ?_
 refine zE yU58 ?_
 refine s_lt ?_
 refine zf (zd ?_)
 refine zn F4 ?_ ?_ <;> intro C25 F5
 refine zG 69 (fun B26 => ?_)
 refine zi (zd (zb (zl (zb ?_))))
 refine zaf yMix (by kernel_rfl) ?_
 refine s_fa zd4 ?_
 refine zp yA58 ?_
 refine s_mv ?_
 obtain ⟨v27, V27, F6⟩ := zc F5
 refine zL zq.row V27 (zq.row_eq _) yE58 ?_
 refine s_fa zgJ ?_
 refine zp yA3 ?_
 refine s_le ?_
 refine s_mv ?_
 refine zy _ 81 F6 ?_ ?_ <;> intro C28 F7
 iterate 9 refine r_no rfl ?_
 refine zC ?_
 refine s_mv ?_
 iterate 10 refine r_no rfl ?_
 refine zC ?_
 refine s_mv ?_
 iterate 14 refine r_no rfl ?_
 refine zC ?_
 refine zao (by kernel_rfl) ?_
 refine zd (zM rfl (zb (za ?_)))
 refine s_as ?_
 refine zf (zd (zh (zj (zg (zu (zj (zg (zm ?_))))))))
 cases F7
 exact zk [] [] Tryz.results61
 refine s_fa zd4 ?_
 refine zp yA58 ?_
 refine s_mv ?_
 obtain ⟨v29, V29, F8⟩ := zc F7
 refine zL zq.row V29 (zq.row_eq _) yE58 ?_
 refine s_fa zgJ ?_
 refine zp yA3 ?_
 refine s_fa yF60_3 ?_
 refine zp yA3 ?_
 refine s_gt ?_
 refine zF ?_
 refine s_mv ?_
 refine zy _ 92 F8 ?_ ?_ <;> intro C30 F9
 iterate 10 refine r_no rfl ?_
 refine zC ?_
 refine s_mv ?_
 iterate 14 refine r_no rfl ?_
 refine zC ?_
 refine zao (by kernel_rfl) ?_
 refine zd (zM rfl (zb (za ?_)))
 refine s_as ?_
 refine zf (zd (zh (zj (zg (zu (zj (zg (zm ?_))))))))
 cases F9
 exact zk [] [] Tryz.results61
 refine zad yA60 yS60 ?_
 refine s_fa zd4 ?_
 refine zp yA58 ?_
 refine s_mv ?_
 obtain ⟨v31, V31, F10⟩ := zc F9
 refine zL zq.row V31 (zq.row_eq _) yE58 ?_
 refine s_fa zgJ ?_
 refine zp yA3 ?_
 obtain ⟨v32, V32, F11⟩ := zc F10
 refine zz [] (zha fu _ _ _ V32) ?_
 refine s_mv ?_
 refine s_ne ?_
 refine zF ?_
 refine s_mv ?_
 refine zy _ 104 F11 ?_ ?_ <;> intro C33 F12
 iterate 14 refine r_no rfl ?_
 refine zC ?_
 refine zao (by kernel_rfl) ?_
 refine zd (zM rfl (zb (za ?_)))
 refine s_as ?_
 refine zf (zd (zh (zj (zg (zu (zj (zg (zm ?_))))))))
 cases F12
 exact zk [] [] Tryz.results61
 refine s_fa zd4 ?_
 refine zp yA58 ?_
 refine s_mv ?_
 obtain ⟨v34, V34, F13⟩ := zc F12
 refine zL zq.row V34 (zq.row_eq _) yE58 ?_
 refine s_fa zfx ?_
 refine zp yA53 ?_
 refine s_fa zd4 ?_
 refine zp yA58 ?_
 refine s_mv ?_
 obtain ⟨v35, V35, F14⟩ := zc F13
 refine zL zq.row V35 (zq.row_eq _) yE58 ?_
 refine s_fa zfy ?_
 refine zp yA35 ?_
 obtain ⟨v36, V36, F15⟩ := zc F14
 refine zz [] (m_spec_l5Rules_ok fu _ _ _ V36) ?_
 refine zbC ?_
 refine zF ?_
 refine zao (by kernel_rfl) ?_
 refine zd ?_
 refine zn F15 ?_ ?_ <;> intro C37 F16
 refine zb (za ?_)
 refine s_as ?_
 refine zf (zd (zh (zj (zg (zu (zj (zg (zm ?_))))))))
 cases F16
 exact zk [] [] Tryz.results61
 refine zi (z6 (zd (za ?_)))
 refine s_mv ?_
 refine zI (zak C25 B26 hn_g23) ?_
 refine s_as ?_
 refine zf ?_
 exact s_rn (fu, (g23 + 1)) ⟨by first | omega | (dsimp only; omega), F16, by first | omega | (dsimp only; omega)⟩
 refine zB (zw (zr (zx (zd (zb (za ?_))))))
 refine s_as ?_
 refine zf (zd (zh (zm ?_)))
 cases F5
 exact zk [] [] Tryz.results61
def zfb (fuel : Nat) : Prop := ∀ (x1 : Form) (r : Form), zcN fuel x1 = some r → AC Tryz.prog 62 [.ag [.t (.sc (.int .i64 x1.kind)), .t (.sc (.str x1.name)), .t (.sc (.int .i64 x1.n)), .t (.sl (x1.scopes.map rI)), .t (.sl (x1.kids.map Form.row))]] (objs []) (.ag [.t (.sc (.int .i64 r.kind)), .t (.sc (.str r.name)), .t (.sc (.int .i64 r.n)), .ar 9203, .ar 9204]) (objs [(9203, .arr (r.scopes.map rI) 3 true), (9204, .arr (r.kids.map Form.row) 37 true)])
theorem m_spec_l1Copy_st (fu : Nat) (ih_m_spec_l1Copy : ∀ k, k ≤ fu → zfb k) : zfb (fu + 1) := by
 intro x1 r F0
 rw [zcN] at F0
 refine AC_i [.ag [.t (.sc (.int .i64 r.kind)), .t (.sc (.str r.name)), .t (.sc (.int .i64 r.n)), .ar 9203, .ar 9204]] Tryz.func62 rfl Tryz.ntmps62 ?_
 intro C hC
 refine zb (za ?_)
 refine zaF ?_
 refine zU yZ37 ?_
 refine zf (zd (zb ?_))
 refine zaf yMix (by kernel_rfl) ?_
 refine s_fa zc8 ?_
 refine zp yA3 ?_
 refine s_fa zcH ?_
 refine zp yA9 ?_
 refine s_fa zep ?_
 refine zp yA3 ?_
 refine s_bs rI ([] : List Int) yP23 yR3 ?_
 refine s_fa zeu ?_
 refine zp yA23 ?_
 obtain ⟨hk1, F1⟩ := zaS F0
 refine s_apT rI (fun _ => rfl) hk1 yP23 ?_
 refine s_bld yZ37 yL37 ?_
 refine zU yZ37 ?_
 refine zb4 yS37 ?_
 refine zao (by kernel_rfl) ?_
 refine zd (zb (zb (za ?_)))
 refine s_as ?_
 refine zf (zd (zl ?_))
 refine zfN 3 5020 37 [.t (.sc (.int .i64 x1.kind)), .t (.sc (.str x1.name)), .t (.sc (.int .i64 x1.n)), .ar 14, .ar 5020] yI37.choose_spec ?_
 refine zbP [4, 16, 17, 18, 19, 20, 21, 22, 23, 24, 25, 26, 27, 28, 29, 30, 31, 32, 33] [3, 5020] [31, 32, 2030, 12030] [5020] (fun a : Nat × Int × (List Form) => a.1) (fun a : Nat × Int × (List Form) => [(4, .t (.sc (.int .i64 a.2.1)))]) (fun a : Nat × Int × (List Form) => [(3, .box [.t (.sc (.int .i64 x1.kind)), .t (.sc (.str x1.name)), .t (.sc (.int .i64 x1.n)), .ar 14, .ar 5020]), (5020, .arr (a.2.2.map Form.row) 37 true)]) (fun a : Nat × Int × (List Form) => a.1 ≤ fu ∧ zcd a.1 x1 a.2.1 a.2.2 = some r ∧ 0 ≤ a.2.1) (fu, 0, ([] : List Form)) ⟨Nat.le_refl _, F1, by simp⟩ (by rfl) (by rfl) (fun _ => rfl) (zbj (by conv => lhs; whnf) (by rfl) zc5) (zaj (by conv => lhs; whnf) (by rfl) (zaj (by conv => lhs; whnf) (by rfl) zcz)) (zeG hC rfl) (by repeat (first | exact zby rfl | refine zb2 rfl ?_ | refine zaT rfl ?_)) (by repeat (first | exact zcw | exact zbD rfl | refine zb3 rfl ?_ | refine zaU rfl ?_)) ?_
 clear F1
 rintro ⟨fu, g2, g3⟩ ⟨hl4, F2, hn_g2⟩
 dsimp only at hl4 F2 hn_g2 ⊢
 obtain _ | fu := fu
 · rw [zcd] at F2; cases F2
 rw [zcd] at F2
 refine zb (zb (za ?_))
 refine s_mv ?_
 refine s_fa zZ ?_
 refine zp yA35 ?_
 refine zE yU35 ?_
 refine s_lt ?_
 refine zf (zd ?_)
 refine zn F2 ?_ ?_ <;> intro C5 F3
 refine zG 18 (fun B6 => ?_)
 refine zi (zd (zb (zl ?_)))
 refine zaf yMix (by kernel_rfl) ?_
 refine s_fa zZ ?_
 refine zp yA35 ?_
 refine s_fa zZ ?_
 refine zp yA35 ?_
 refine s_mv ?_
 obtain ⟨v7, V7, F4⟩ := zc F3
 refine zL Form.row V7 (Form.row_eq _) yE35 ?_
 refine zag yA37 yS37 ?_
 obtain ⟨v8, V8, F5⟩ := zc F4
 refine zQ [(9203, 2030), (9204, 12030)] [] _ _ (ih_m_spec_l1Copy fu (by omega) _ _ V8) ?_
 refine s_bs Form.row [v8] yP35 yR37 ?_
 obtain ⟨hk9, F6⟩ := zaS F5
 refine s_apT Form.row (fun y => Form.row_len y) hk9 yP35 ?_
 refine s_fa zZ ?_
 refine zcY yS35 ?_
 refine zao (by kernel_rfl) ?_
 refine z6 (zd (za ?_))
 refine s_mv ?_
 refine zI (zak C5 B6 hn_g2) ?_
 refine s_as ?_
 refine zf ?_
 exact s_rn (fu, (g2 + 1), (g3 ++ [v8])) ⟨by first | omega | (dsimp only; omega), F6, by first | omega | (dsimp only; omega)⟩ [(5020, 32)]
 refine zB (zw (zr (zx (zd (zb (za ?_))))))
 refine zad yA37 yS37 ?_
 refine zb4 yS37 ?_
 refine zf (zd ?_)
 refine zfq 2 14 9203 [.t (.sc (.int .i64 x1.kind)), .t (.sc (.str x1.name)), .t (.sc (.int .i64 x1.n)), .ar 9203, .ar 5020] ?_
 refine zfq 2 5020 9204 [.t (.sc (.int .i64 x1.kind)), .t (.sc (.str x1.name)), .t (.sc (.int .i64 x1.n)), .ar 9203, .ar 9204] ?_
 refine zh (zm ?_)
 cases F3
 exact zch _ [] (by rw [Tryz.results62]; exact (zdt (by conv => lhs; whnf) (by conv => lhs; whnf) yA37 yS37 rfl zcj))
theorem m_spec_l1Copy_all (fuel : Nat) : zfb fuel := by
 induction fuel using Nat.strongRecOn with
 | _ N ih =>
   cases N with
   | zero => exact (by intro x1 r h; rw [zcN] at h; cases h)
   | succ fu => exact m_spec_l1Copy_st fu (fun k hk => (ih k (by omega)))
theorem zgg (fuel : Nat) : zfb fuel := (m_spec_l1Copy_all fuel)
def m_spec_FindMacro_AC (fuel : Nat) : Prop := ∀ (x1 : zv) (x2 : Int) (r : (zq × Bool)), zd6 fuel x1 x2 = some r → AC Tryz.prog 24 [.ag [.t (.sl (x1.binds.map Bind.row)), .t (.sl (x1.macros.map zq.row)), .t (.sc (.int .i64 x1.scope)), .t (.sc (.int .i64 x1.id)), .t (.sc (.int .i64 x1.steps))], .t (.sc (.int .i64 x2))] noOb (.tp [.ag [.t (.sc (.int .i64 r.1.id)), .t (.sl (r.1.literals.map Form.row)), .t (.sl (r.1.rules.map Rule.row))], .t (.sc (.bool r.2))]) noOb
theorem m_spec_FindMacro_ok (fuel : Nat) : m_spec_FindMacro_AC fuel := by
 intro x1 x2 r F0
 unfold zd6 at F0
 refine AC_i [.ag [.t (.sc (.int .i64 r.1.id)), .t (.sl (r.1.literals.map Form.row)), .t (.sl (r.1.rules.map Rule.row))], .t (.sc (.bool r.2))] Tryz.func24 rfl Tryz.ntmps24 ?_
 intro C hC
 refine zb (za ?_)
 refine zaF ?_
 refine zU yZ55 ?_
 refine s_as ?_
 refine zf (zd (zb (za ?_)))
 refine zad yA60 yS60 ?_
 refine s_mv ?_
 obtain ⟨v1, V1, F1⟩ := zc F0
 refine zz [] (zha fuel _ _ _ V1) ?_
 refine s_as ?_
 refine zf (zd (zb ?_))
 refine zgd (α := Nat × Bool) [14, 15, 16, 17, 18, 19, 20] [] [] (fun a => [(20, .t (.sc (.bool a.2)))]) (fun a => []) (fun a => a.1 ≤ fuel ∧ zbq a.1 x1 x2 v1 a.2 = some r) ?_ ?_
 refine za ?_
 refine zad yA60 yS60 ?_
 obtain ⟨v2, V2, F2⟩ := zc F1
 refine zz [] (zhc fuel _ _ V2) ?_
 refine zbC ?_
 refine s_mv ?_
 refine zy _ 17 F2 ?_ ?_ <;> intro C3 F3
 refine r_no rfl (r_no rfl ?_)
 refine zC ?_
 refine zf ?_
 exact s_jn (fuel, true) ⟨by first | omega | (dsimp only; omega), F3⟩
 refine s_mv ?_
 refine s_lt ?_
 refine zF ?_
 refine zf ?_
 exact s_jn (fuel, (decide (v1 < 0))) ⟨by first | omega | (dsimp only; omega), F3⟩
 clear F1
 rintro ⟨fu, g4⟩ ⟨hl5, F2⟩
 dsimp only at hl5 F2 ⊢
 obtain _ | fu := fu
 · rw [zbq] at F2; cases F2
 rw [zbq] at F2
 refine zn F2 ?_ ?_ <;> intro C6 F3
 refine zb (za ?_)
 refine s_bld yZ55 yL55 ?_
 refine zb4 yS55 ?_
 refine s_as ?_
 refine zf (zd (zh (zg (zm ?_))))
 cases F3
 exact zch [] [] (by rw [Tryz.results24]; exact (zdt (by conv => lhs; whnf) (by conv => lhs; whnf) yA55 yS55 rfl (zds (by conv => lhs; whnf) zcj)))
 refine zi (zd (zb (za ?_)))
 refine s_mv ?_
 refine s_bld yZ55 yL55 ?_
 refine zU yZ55 ?_
 refine zb4 yS55 ?_
 refine zf (zd ?_)
 refine zgd (α := Nat × (List Form)) [8, 24, 25, 26, 27, 28, 29, 30, 31, 32, 33, 34, 35, 36, 37, 38, 39, 40, 41, 42, 43, 44, 45, 46, 47, 48, 49] [7, 5060] [] (fun a => []) (fun a => [(7, .box [.t (.sc (.int .i64 x2)), .ar 5060, .nl]), (5060, .arr (a.2.map Form.row) 37 true)]) (fun a => a.1 ≤ fu ∧ zcZ a.1 x1 x2 v1 a.2 = some r) ?_ ?_
 refine zb (za ?_)
 refine s_as ?_
 refine zf (zd (zl ?_))
 refine zfN 7 5060 37 [.t (.sc (.int .i64 x2)), .ar 5060, .nl] yI37.choose_spec ?_
 refine zbP [8, 24, 25, 26, 27, 28, 29, 30, 31, 32, 33, 34, 35, 36, 37, 38, 39, 40, 41, 42, 43, 44, 45, 46, 47, 48, 49] [7, 5060] [47, 48, 2046, 12046] [5060] (fun a : Nat × Int × (List Form) => a.1) (fun a : Nat × Int × (List Form) => [(8, .t (.sc (.int .i64 a.2.1)))]) (fun a : Nat × Int × (List Form) => [(7, .box [.t (.sc (.int .i64 x2)), .ar 5060, .nl]), (5060, .arr (a.2.2.map Form.row) 37 true)]) (fun a : Nat × Int × (List Form) => a.1 ≤ fu ∧ zbp a.1 x1 x2 v1 a.2.1 a.2.2 = some r ∧ 0 ≤ a.2.1) (fu, 0, ([] : List Form)) ⟨Nat.le_refl _, F3, by simp⟩ (by rfl) (by rfl) (fun _ => rfl) (zbj (by conv => lhs; whnf) (by rfl) zc5) (zaj (by conv => lhs; whnf) (by rfl) (zaj (by conv => lhs; whnf) (by rfl) zcz)) (zeG hC rfl) (by repeat (first | exact zby rfl | refine zb2 rfl ?_ | refine zaT rfl ?_)) (by repeat (first | exact zcw | exact zbD rfl | refine zb3 rfl ?_ | refine zaU rfl ?_)) ?_
 clear F3
 rintro ⟨fu, g7, g8⟩ ⟨hl9, F4, hn_g7⟩
 dsimp only at hl9 F4 hn_g7 ⊢
 obtain _ | fu := fu
 · rw [zbp] at F4; cases F4
 rw [zbp] at F4
 refine zb (zb (za ?_))
 refine s_mv ?_
 refine s_fa zd4 ?_
 refine zp yA58 ?_
 refine s_mv ?_
 obtain ⟨v10, V10, F5⟩ := zc F4
 refine zL zq.row V10 (zq.row_eq _) yE58 ?_
 refine s_fa zfy ?_
 refine zp yA35 ?_
 refine zE yU35 ?_
 refine s_lt ?_
 refine zf (zd ?_)
 refine zn F5 ?_ ?_ <;> intro C11 F6
 refine zG 30 (fun B12 => ?_)
 refine zi (zd (zb (zl ?_)))
 refine zaf yMix (by kernel_rfl) ?_
 refine s_fa zfy ?_
 refine zp yA35 ?_
 refine s_fa zd4 ?_
 refine zp yA58 ?_
 refine s_mv ?_
 obtain ⟨v13, V13, F7⟩ := zc F6
 refine zL zq.row V13 (zq.row_eq _) yE58 ?_
 refine s_fa zfy ?_
 refine zp yA35 ?_
 refine s_mv ?_
 obtain ⟨v14, V14, F8⟩ := zc F7
 refine zL Form.row V14 (Form.row_eq _) yE35 ?_
 refine zag yA37 yS37 ?_
 obtain ⟨v15, V15, F9⟩ := zc F8
 refine zQ [(9203, 2046), (9204, 12046)] [] _ _ (zgg fu _ _ V15) ?_
 refine s_bs Form.row [v15] yP35 yR37 ?_
 obtain ⟨hk16, F10⟩ := zaS F9
 refine s_apT Form.row (fun y => Form.row_len y) hk16 yP35 ?_
 refine s_fa zfy ?_
 refine zcY yS35 ?_
 refine zao (by kernel_rfl) ?_
 refine z6 (zd (za ?_))
 refine s_mv ?_
 refine zI (zak C11 B12 hn_g7) ?_
 refine s_as ?_
 refine zf ?_
 exact s_rn (fu, (g7 + 1), (g8 ++ [v15])) ⟨by first | omega | (dsimp only; omega), F10, by first | omega | (dsimp only; omega)⟩ [(5060, 48)]
 refine zB (zw (zr (zx ?_)))
 exact s_jn (fu, g8) ⟨by first | omega | (dsimp only; omega), F6⟩
 clear F3
 rintro ⟨fu, g17⟩ ⟨hl18, F4⟩
 dsimp only at hl18 F4 ⊢
 obtain _ | fu := fu
 · rw [zcZ] at F4; cases F4
 rw [zcZ] at F4
 refine zb (zb (za ?_))
 refine s_as ?_
 refine zf (zd (zl ?_))
 refine zfN 7 5080 96 [.t (.sc (.int .i64 x2)), .ar 5060, .ar 5080] yI96.choose_spec ?_
 refine zbP [9, 10, 50, 51, 52, 53, 54, 55, 56, 57, 58, 59, 60, 61, 62, 63, 64, 65, 66, 67, 68, 69, 70, 71, 72, 73, 74, 75, 76, 77, 78, 79, 80, 81] [7, 5080] [10, 79, 80, 2074, 2077, 12074, 12077] [5080] (fun a : Nat × Int × (List Rule) => a.1) (fun a : Nat × Int × (List Rule) => [(9, .t (.sc (.int .i64 a.2.1)))]) (fun a : Nat × Int × (List Rule) => [(7, .box [.t (.sc (.int .i64 x2)), .ar 5060, .ar 5080]), (5080, .arr (a.2.2.map Rule.row) 96 true)]) (fun a : Nat × Int × (List Rule) => a.1 ≤ fu ∧ zaX a.1 x1 x2 v1 g17 a.2.1 a.2.2 = some r ∧ 0 ≤ a.2.1) (fu, 0, ([] : List Rule)) ⟨Nat.le_refl _, F4, by simp⟩ (by rfl) (by rfl) (fun _ => rfl) (zbj (by conv => lhs; whnf) (by rfl) zc5) (zaj (by conv => lhs; whnf) (by rfl) (zaj (by conv => lhs; whnf) (by rfl) zcz)) (zeG hC rfl) (by repeat (first | exact zby rfl | refine zb2 rfl ?_ | refine zaT rfl ?_)) (by repeat (first | exact zcw | exact zbD rfl | refine zb3 rfl ?_ | refine zaU rfl ?_)) ?_
 clear F4
 rintro ⟨fu, g19, g20⟩ ⟨hl21, F5, hn_g19⟩
 dsimp only at hl21 F5 hn_g19 ⊢
 obtain _ | fu := fu
 · rw [zaX] at F5; cases F5
 rw [zaX] at F5
 refine zb (zb (za ?_))
 refine s_mv ?_
 refine s_fa zd4 ?_
 refine zp yA58 ?_
 refine s_mv ?_
 obtain ⟨v22, V22, F6⟩ := zc F5
 refine zL zq.row V22 (zq.row_eq _) yE58 ?_
 refine s_fa zfx ?_
 refine zp yA53 ?_
 refine zE yU53 ?_
 refine s_lt ?_
 refine zf (zd ?_)
 refine zn F6 ?_ ?_ <;> intro C23 F7
 refine zG 56 (fun B24 => ?_)
 refine zi (zd (zb (zl (zb (za ?_)))))
 refine s_fa zd4 ?_
 refine zp yA58 ?_
 refine s_mv ?_
 obtain ⟨v25, V25, F8⟩ := zc F7
 refine zL zq.row V25 (zq.row_eq _) yE58 ?_
 refine s_fa zfx ?_
 refine zp yA53 ?_
 refine s_mv ?_
 obtain ⟨v26, V26, F9⟩ := zc F8
 refine zL Rule.row V26 (Rule.row_eq _) yE53 ?_
 refine zag yA96 yS96 ?_
 refine zU yZ96 ?_
 refine zb4 yS96 ?_
 refine zf (zd ?_)
 refine zaf yMix (by kernel_rfl) ?_
 refine s_fa zfx ?_
 refine zp yA53 ?_
 refine s_fa zd3 ?_
 refine zag yA37 yS37 ?_
 obtain ⟨v27, V27, F10⟩ := zc F9
 refine zQ [(9203, 2074), (9204, 12074)] [] _ _ (zgg fu _ _ V27) ?_
 refine s_fa zfr ?_
 refine zag yA37 yS37 ?_
 obtain ⟨v28, V28, F11⟩ := zc F10
 refine zQ [(9203, 2077), (9204, 12077)] [] _ _ (zgg fu _ _ V28) ?_
 refine s_bld yZ96 yL96 ?_
 refine s_bs Rule.row [(Rule.mk v27 v28)] yP53 yR96 ?_
 obtain ⟨hk29, F12⟩ := zaS F11
 refine s_apT Rule.row (fun y => Rule.row_len y) hk29 yP53 ?_
 refine s_fa zfx ?_
 refine zcY yS53 ?_
 refine zao (by kernel_rfl) ?_
 refine z6 (zd (za ?_))
 refine s_mv ?_
 refine zI (zak C23 B24 hn_g19) ?_
 refine s_as ?_
 refine zf ?_
 exact s_rn (fu, (g19 + 1), (g20 ++ [(Rule.mk v27 v28)])) ⟨by first | omega | (dsimp only; omega), F12, by first | omega | (dsimp only; omega)⟩ [(5080, 80)]
 refine zB (zw (zr (zx (zd (zb (za ?_))))))
 refine zad yA55 yS55 ?_
 refine zb4 yS55 ?_
 refine s_as ?_
 refine zf (zd (zh (zm ?_)))
 cases F7
 exact zch [] [5060, 5080] (by rw [Tryz.results24]; exact (zdt (by conv => lhs; whnf) (by conv => lhs; whnf) yA55 yS55 rfl (zds (by conv => lhs; whnf) zcj)))
def m_laws_toIntS_D_AC (fuel : Nat) : Prop := ∀ (x1 : (List Int)) (r : (List Int)), zdi fuel x1 = some r → AC Tryz.prog 47 [.t (.sl (x1.map rI))] (objs []) (.ar 9200) (objs [(9200, .arr (r.map rI) 3 true)])
theorem zgS (fuel : Nat) : m_laws_toIntS_D_AC fuel := by
 intro x1 r F0
 unfold zdi at F0
 refine AC_i [.ar 9200] Tryz.func47 rfl Tryz.ntmps47 ?_
 intro C hC
 refine zb (za ?_)
 refine s_as ?_
 refine zf (zd (zb (za ?_)))
 refine s_mv ?_
 refine zE yU23 ?_
 obtain ⟨hk1, F1⟩ := zaS F0
 refine s_mk rI 0 rfl hk1 yP23 yR3 ?_
 refine s_as ?_
 refine zf (zd (zb (zb (za ?_))))
 refine s_as ?_
 refine zf (zd (zl ?_))
 refine zap (β := Int × (List Int)) [4, 8, 9, 10, 11, 12, 13, 14, 15, 16, 17, 18, 19, 20] [7] [] (fun a => [(4, .t (.sc (.int .i64 a.2.1)))]) (fun a => [(7, .arr (a.2.2.map rI) 3 true)]) (fun a => a.1 ≤ fuel ∧ zbA a.1 x1 a.2.1 a.2.2 = some r ∧ 0 ≤ a.2.1) (fuel, 0, (List.replicate (x1.length : Int).toNat 0)) ⟨Nat.le_refl _, F1, by simp⟩ ?_
 clear F1
 rintro ⟨fu, g2, g3⟩ ⟨hl4, F2, hn_g2⟩
 dsimp only at hl4 F2 hn_g2 ⊢
 obtain _ | fu := fu
 · rw [zbA] at F2; cases F2
 rw [zbA] at F2
 refine zb (zb (za ?_))
 refine s_mv ?_
 refine s_mv ?_
 refine zE yU23 ?_
 refine s_lt ?_
 refine zf (zd ?_)
 refine zn F2 ?_ ?_ <;> intro C5 F3
 refine zG 0 (fun B6 => ?_)
 refine zi (zd (zb (zl (za ?_))))
 iterate 4 refine s_mv ?_
 obtain ⟨v7, V7, F4⟩ := zc F3
 refine zL rI V7 rfl yE23 ?_
 refine zp yA3 ?_
 obtain ⟨v8, V8, F5⟩ := zc F4
 refine s_ixA rI V8 yE23 ?_
 refine s_stA rI v7 V8 rfl rfl yS3 yS3 ?_
 refine zf (z6 (zd (za ?_)))
 refine s_mv ?_
 refine zI (zak C5 B6 hn_g2) ?_
 refine s_as ?_
 refine zf ?_
 exact s_rn (fu, (g2 + 1), (g3.set g2.toNat v7)) ⟨by first | omega | (dsimp only; omega), F5, by first | omega | (dsimp only; omega)⟩
 refine zB (zw (zr (zx (zd (zb (za ?_))))))
 refine s_mv ?_
 refine s_as ?_
 refine zf (zd ?_)
 refine zhl 2 7 9200 (by conv => lhs; whnf) (by conv => lhs; whnf) rfl ?_
 refine zh (zm ?_)
 cases F3
 exact zk _ [] Tryz.results47
def m_laws_toBind_D_AC (fuel : Nat) : Prop := ∀ (x1 : Bind) (r : Bind), zdk fuel x1 = some r → AC Tryz.prog 46 [.ag [.t (.sc (.str x1.name)), .t (.sl (x1.scopes.map rI)), .t (.sc (.int .i64 x1.id))]] (objs []) (.ag [.t (.sc (.str r.name)), .ar 9201, .t (.sc (.int .i64 r.id))]) (objs [(9201, .arr (r.scopes.map rI) 3 true)])
theorem m_laws_toBind_D_ok (fuel : Nat) : m_laws_toBind_D_AC fuel := by
 intro x1 r F0
 unfold zdk at F0
 refine AC_i [.ag [.t (.sc (.str r.name)), .ar 9201, .t (.sc (.int .i64 r.id))]] Tryz.func46 rfl Tryz.ntmps46 ?_
 intro C hC
 refine zb (za ?_)
 refine zaF ?_
 refine zU yZ83 ?_
 refine zf (zd (zb (za ?_)))
 refine zU yZ83 ?_
 refine zf (zd (zb (za ?_)))
 refine s_fa yF77_0 ?_
 refine zp yA9 ?_
 refine s_fa yF83_0 ?_
 refine zcY yS9 ?_
 refine zf (zd (zb (za ?_)))
 refine s_fa yF77_1 ?_
 refine zp yA23 ?_
 obtain ⟨v1, V1, F1⟩ := zc F0
 refine zQ [(9200, 2009)] [] _ _ (zgS fuel _ _ V1) ?_
 refine s_fa yF83_1 ?_
 refine zcY yS23 ?_
 refine zf (zd (zb (za ?_)))
 refine s_fa yF77_2 ?_
 refine zp yA3 ?_
 refine s_fa zg7 ?_
 refine zcY yS3 ?_
 refine zf (zd (zb (za ?_)))
 refine zad yA83 yS83 ?_
 refine zb4 yS83 ?_
 refine zf (zd ?_)
 refine zfq 2 2009 9201 [.t (.sc (.str x1.name)), .ar 9201, .t (.sc (.int .i64 x1.id))] ?_
 refine zh (zm ?_)
 cases F1
 exact zch _ [] (by rw [Tryz.results46]; exact (zdt (by conv => lhs; whnf) (by conv => lhs; whnf) yA83 yS83 rfl zcj))
def m_laws_toBindS_D_AC (fuel : Nat) : Prop := ∀ (x1 : (List Bind)) (r : (List Bind)), zdz fuel x1 = some r → AC Tryz.prog 10 [.t (.sl (x1.map Bind.row))] (objs []) (.ar 9200) (objs [(9200, .dar (r.map (Bind.rowD 3)) 83)])
theorem m_laws_toBindS_D_ok (fuel : Nat) : m_laws_toBindS_D_AC fuel := by
 intro x1 r F0
 unfold zdz at F0
 refine AC_i [.ar 9200] Tryz.func10 rfl Tryz.ntmps10 ?_
 intro C hC
 refine zb (za ?_)
 refine s_as ?_
 refine zf (zd (zb (za ?_)))
 refine s_mv ?_
 refine zE yU22 ?_
 obtain ⟨hk1, F1⟩ := zaS F0
 refine s_mkD (Bind.rowD 3) (Bind.mk (⟨#[]⟩ : ByteArray) ([] : List Int) 0) [.sc (.str (⟨#[]⟩ : ByteArray)), .sc (.nis 3), .sc (.int .i64 0)] (by rw [(Bind.rowDE _ _)]; rfl) hk1 yP33 yZ83 yN83 ?_
 refine s_as ?_
 refine zf (zd (zb (zb (za ?_))))
 refine s_as ?_
 refine zf (zd (zl ?_))
 refine zap (β := Int × (List Bind)) [4, 8, 9, 10, 11, 12, 13, 14, 15, 16, 17, 18, 19, 20, 21] [7] [2020] (fun a => [(4, .t (.sc (.int .i64 a.2.1)))]) (fun a => [(7, .dar (a.2.2.map (Bind.rowD 3)) 83)]) (fun a => a.1 ≤ fuel ∧ za3 a.1 x1 a.2.1 a.2.2 = some r ∧ 0 ≤ a.2.1) (fuel, 0, (List.replicate (x1.length : Int).toNat (Bind.mk (⟨#[]⟩ : ByteArray) ([] : List Int) 0))) ⟨Nat.le_refl _, F1, by simp⟩ ?_
 clear F1
 rintro ⟨fu, g2, g3⟩ ⟨hl4, F2, hn_g2⟩
 dsimp only at hl4 F2 hn_g2 ⊢
 obtain _ | fu := fu
 · rw [za3] at F2; cases F2
 rw [za3] at F2
 refine zb (zb (za ?_))
 refine s_mv ?_
 refine s_mv ?_
 refine zE yU22 ?_
 refine s_lt ?_
 refine zf (zd ?_)
 refine zn F2 ?_ ?_ <;> intro C5 F3
 refine zG 0 (fun B6 => ?_)
 refine zi (zd (zb (zl (za ?_))))
 iterate 4 refine s_mv ?_
 obtain ⟨v7, V7, F4⟩ := zc F3
 refine zL Bind.row V7 (Bind.row_eq _) yE22 ?_
 refine zag yA77 yS77 ?_
 obtain ⟨v8, V8, F5⟩ := zc F4
 refine zQ [(9201, 2020)] [] _ _ (m_laws_toBind_D_ok fu _ _ V8) ?_
 obtain ⟨v9, V9, F6⟩ := zc F5
 refine zgf (Bind.rowD 3) V9 yE33 ?_
 refine s_stS (Bind.rowD 3) [.sc (.str v8.name), .any, .sc (.int .i64 v8.id)] [(g2.toNat, 1, 2020)] V9 yS83 yS83 ?_
 refine zf (z6 (zd ?_))
 refine awp_jsA 7 2020 [.sc (.str v8.name), .ow 3 (v8.scopes.map rI), .sc (.int .i64 v8.id)] V9 ?_
 refine zfW 7 (row := (Bind.rowD 3)) (fs := [.sc (.str v8.name), .ow 3 (v8.scopes.map rI), .sc (.int .i64 v8.id)]) v8 (Bind.rowDE _ _) ?_
 refine za ?_
 refine s_mv ?_
 refine zI (zak C5 B6 hn_g2) ?_
 refine s_as ?_
 refine zf ?_
 exact s_rn (fu, (g2 + 1), (g3.set g2.toNat v8)) ⟨by first | omega | (dsimp only; omega), F6, by first | omega | (dsimp only; omega)⟩
 refine zB (zw (zr (zx (zd (zb (za ?_))))))
 refine s_mv ?_
 refine s_as ?_
 refine zf (zd ?_)
 refine awp_mvD 2 7 9200 (by conv => lhs; whnf) (by conv => lhs; whnf) rfl ?_
 refine zh (zm ?_)
 cases F3
 exact zk _ [] Tryz.results10
def zc1 (fuel : Nat) : Prop := ∀ (x1 : (List Form)) (r : (List Form)), zbQ fuel x1 = some r → AC Tryz.prog 12 [.t (.sl (x1.map Form.row))] (objs []) (.ar 9200) (objs [(9200, .dar (r.map (Form.rowD 3 37)) 37)])
def zdj (fuel : Nat) : Prop := ∀ (x1 : Form) (r : Form), zbg fuel x1 = some r → AC Tryz.prog 11 [.ag [.t (.sc (.int .i64 x1.kind)), .t (.sc (.str x1.name)), .t (.sc (.int .i64 x1.n)), .t (.sl (x1.scopes.map rI)), .t (.sl (x1.kids.map Form.row))]] (objs []) (.ag [.t (.sc (.int .i64 r.kind)), .t (.sc (.str r.name)), .t (.sc (.int .i64 r.n)), .ar 9203, .ar 9204]) (objs [(9203, .arr (r.scopes.map rI) 3 true), (9204, .dar (r.kids.map (Form.rowD 3 37)) 37)])
theorem m_laws_toFormS_D_st (fu : Nat) (ih_m_laws_toFormS_D : ∀ k, k ≤ fu → zc1 k) (ih_m_laws_toForm_D : ∀ k, k ≤ fu → zdj k) : zc1 (fu + 1) := by
 intro x1 r F0
 rw [zbQ] at F0
 refine AC_i [.ar 9200] Tryz.func12 rfl Tryz.ntmps12 ?_
 intro C hC
 refine zb (za ?_)
 refine s_as ?_
 refine zf (zd (zb (za ?_)))
 refine s_mv ?_
 refine zE yU24 ?_
 obtain ⟨hk1, F1⟩ := zaS F0
 refine s_mkD (Form.rowD 3 37) (Form.mk 0 (⟨#[]⟩ : ByteArray) 0 ([] : List Int) ([] : List Form)) [.sc (.int .i64 0), .sc (.str (⟨#[]⟩ : ByteArray)), .sc (.int .i64 0), .sc (.nis 3), .sc (.nis 37)] (by rw [(Form.rowDE _ _ _)]; rfl) hk1 yP35 yZ37 yN37 ?_
 refine s_as ?_
 refine zf (zd (zb (zb (za ?_))))
 refine s_as ?_
 refine zf (zd (zl ?_))
 refine zap (β := Int × (List Form)) [4, 8, 9, 10, 11, 12, 13, 14, 15, 16, 17, 18, 19, 20, 21] [7] [2020, 12020] (fun a => [(4, .t (.sc (.int .i64 a.2.1)))]) (fun a => [(7, .dar (a.2.2.map (Form.rowD 3 37)) 37)]) (fun a => a.1 ≤ fu ∧ zaB a.1 x1 a.2.1 a.2.2 = some r ∧ 0 ≤ a.2.1) (fu, 0, (List.replicate (x1.length : Int).toNat (Form.mk 0 (⟨#[]⟩ : ByteArray) 0 ([] : List Int) ([] : List Form)))) ⟨Nat.le_refl _, F1, by simp⟩ ?_
 clear F1
 rintro ⟨fu, g2, g3⟩ ⟨hl4, F2, hn_g2⟩
 dsimp only at hl4 F2 hn_g2 ⊢
 obtain _ | fu := fu
 · rw [zaB] at F2; cases F2
 rw [zaB] at F2
 refine zb (zb (za ?_))
 refine s_mv ?_
 refine s_mv ?_
 refine zE yU24 ?_
 refine s_lt ?_
 refine zf (zd ?_)
 refine zn F2 ?_ ?_ <;> intro C5 F3
 refine zG 0 (fun B6 => ?_)
 refine zi (zd (zb (zl (za ?_))))
 iterate 4 refine s_mv ?_
 obtain ⟨v7, V7, F4⟩ := zc F3
 refine zL Form.row V7 (Form.row_eq _) yE24 ?_
 refine zag yA26 yS26 ?_
 obtain ⟨v8, V8, F5⟩ := zc F4
 refine zQ [(9203, 2020), (9204, 12020)] [] _ _ (ih_m_laws_toForm_D fu (by omega) _ _ V8) ?_
 obtain ⟨v9, V9, F6⟩ := zc F5
 refine zgf (Form.rowD 3 37) V9 yE35 ?_
 refine s_stS (Form.rowD 3 37) [.sc (.int .i64 v8.kind), .sc (.str v8.name), .sc (.int .i64 v8.n), .any, .any] [(g2.toNat, 3, 2020), (g2.toNat, 4, 12020)] V9 yS37 yS37 ?_
 refine zf (z6 (zd ?_))
 refine awp_jsA 7 2020 [.sc (.int .i64 v8.kind), .sc (.str v8.name), .sc (.int .i64 v8.n), .ow 3 (v8.scopes.map rI), .any] V9 ?_
 refine zg6 7 12020 [.sc (.int .i64 v8.kind), .sc (.str v8.name), .sc (.int .i64 v8.n), .ow 3 (v8.scopes.map rI), .ow 37 (v8.kids.map (Form.rowD 3 37))] V9 ?_
 refine zfW 7 (row := (Form.rowD 3 37)) (fs := [.sc (.int .i64 v8.kind), .sc (.str v8.name), .sc (.int .i64 v8.n), .ow 3 (v8.scopes.map rI), .ow 37 (v8.kids.map (Form.rowD 3 37))]) v8 (Form.rowDE _ _ _) ?_
 refine za ?_
 refine s_mv ?_
 refine zI (zak C5 B6 hn_g2) ?_
 refine s_as ?_
 refine zf ?_
 exact s_rn (fu, (g2 + 1), (g3.set g2.toNat v8)) ⟨by first | omega | (dsimp only; omega), F6, by first | omega | (dsimp only; omega)⟩
 refine zB (zw (zr (zx (zd (zb (za ?_))))))
 refine s_mv ?_
 refine s_as ?_
 refine zf (zd ?_)
 refine awp_mvD 2 7 9200 (by conv => lhs; whnf) (by conv => lhs; whnf) rfl ?_
 refine zh (zm ?_)
 cases F3
 exact zk _ [] Tryz.results12
theorem m_laws_toForm_D_st (fu : Nat) (ih_m_laws_toFormS_D : ∀ k, k ≤ fu → zc1 k) (ih_m_laws_toForm_D : ∀ k, k ≤ fu → zdj k) : zdj (fu + 1) := by
 intro x1 r F0
 rw [zbg] at F0
 refine AC_i [.ag [.t (.sc (.int .i64 r.kind)), .t (.sc (.str r.name)), .t (.sc (.int .i64 r.n)), .ar 9203, .ar 9204]] Tryz.func11 rfl Tryz.ntmps11 ?_
 intro C hC
 refine zb (za ?_)
 refine zaF ?_
 refine zU yZ37 ?_
 refine zf (zd (zb (za ?_)))
 refine zU yZ37 ?_
 refine zf (zd (zb (za ?_)))
 refine s_fa yF26_0 ?_
 refine zp yA3 ?_
 refine s_fa zc8 ?_
 refine zcY yS3 ?_
 refine zf (zd (zb (za ?_)))
 refine s_fa yF26_1 ?_
 refine zp yA9 ?_
 refine s_fa zcH ?_
 refine zcY yS9 ?_
 refine zf (zd (zb (za ?_)))
 refine s_fa yF26_2 ?_
 refine zp yA3 ?_
 refine s_fa zep ?_
 refine zcY yS3 ?_
 refine zf (zd (zb (za ?_)))
 refine s_fa yF26_3 ?_
 refine zp yA23 ?_
 obtain ⟨v1, V1, F1⟩ := zc F0
 refine zQ [(9200, 2015)] [] _ _ (zgS fu _ _ V1) ?_
 refine s_fa zeu ?_
 refine zcY yS23 ?_
 refine zf (zd (zb (za ?_)))
 refine s_fa yF26_4 ?_
 refine zp yA24 ?_
 obtain ⟨v2, V2, F2⟩ := zc F1
 refine zQ [(9200, 2019)] [] _ _ (ih_m_laws_toFormS_D fu (by omega) _ _ V2) ?_
 refine s_fa zZ ?_
 refine zcY yS35 ?_
 refine zf (zd (zb (za ?_)))
 refine zad yA37 yS37 ?_
 refine zb4 yS37 ?_
 refine zf (zd ?_)
 refine zfq 2 2015 9203 [.t (.sc (.int .i64 x1.kind)), .t (.sc (.str x1.name)), .t (.sc (.int .i64 x1.n)), .ar 9203, .ar 2019] ?_
 refine zfh 2 2019 9204 [.t (.sc (.int .i64 x1.kind)), .t (.sc (.str x1.name)), .t (.sc (.int .i64 x1.n)), .ar 9203, .ar 9204] ?_
 refine zh (zm ?_)
 cases F2
 exact zch _ [] (by rw [Tryz.results11]; exact (zdt (by conv => lhs; whnf) (by conv => lhs; whnf) yA37 yS37 rfl zcj))
end Go.Abs
