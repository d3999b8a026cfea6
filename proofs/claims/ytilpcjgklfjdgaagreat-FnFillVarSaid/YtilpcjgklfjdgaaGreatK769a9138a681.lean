/- A part of the proof: what the functions that the law calls answer, as pure values. -/
import Derived.Test.YtilpcjgklfjdgaaGreatK129dacfedf59
import Derived.Test.YtilpcjgklfjdgaaGreatKc2e0a31646d6
import Derived.Test.YtilpcjgklfjdgaaGreatKee9727030f10
import Derived.Test.YtilpcjgklfjdgaaGreatK0dcdbcf3844c
import Derived.Test.YtilpcjgklfjdgaaGreatK20a40aab30d8
import Derived.Test.YtilpcjgklfjdgaaGreatK7be495c82a20
import Derived.Test.YtilpcjgklfjdgaaGreatK724feeb466d9
import Derived.Test.YtilpcjgklfjdgaaGreatK1e8eb432d4fb
set_option linter.unusedSimpArgs false
set_option linter.unusedVariables false
set_option maxRecDepth 100000
set_option maxHeartbeats 4000000
namespace Go.Abs
open Go.Proofs
def zff (fuel : Nat) : Prop := ∀ (x1 : (List Bind)) (x2 : (List Form)) (x3 : (List Form)) (x4 : (List Form)) (r : ((List Hit) × Bool)), zeQ fuel x1 x2 x3 x4 = some r → AC Tryz.prog 110 [.t (.sl (x1.map Bind.row)), .t (.sl (x2.map Form.row)), .t (.sl (x3.map Form.row)), .t (.sl (x4.map Form.row))] noOb (.tp [.t (.sl (r.1.map Hit.row)), .t (.sc (.bool r.2))]) noOb
def zdL (fuel : Nat) : Prop := ∀ (x1 : (List Bind)) (x2 : Form) (x3 : (List Form)) (x4 : Form) (r : ((List Hit) × Bool)), zbX fuel x1 x2 x3 x4 = some r → AC Tryz.prog 55 [.t (.sl (x1.map Bind.row)), .ag [.t (.sc (.int .i64 x2.kind)), .t (.sc (.str x2.name)), .t (.sc (.int .i64 x2.n)), .t (.sl (x2.scopes.map rI)), .t (.sl (x2.kids.map Form.row))], .t (.sl (x3.map Form.row)), .ag [.t (.sc (.int .i64 x4.kind)), .t (.sc (.str x4.name)), .t (.sc (.int .i64 x4.n)), .t (.sl (x4.scopes.map rI)), .t (.sl (x4.kids.map Form.row))]] noOb (.tp [.t (.sl (r.1.map Hit.row)), .t (.sc (.bool r.2))]) noOb
theorem m_spec_l4List_st (fu : Nat) (ih_m_spec_l4List : ∀ k, k ≤ fu → zff k) (ih_m_spec_l4Match : ∀ k, k ≤ fu → zdL k) : zff (fu + 1) := by
 intro x1 x2 x3 x4 r F0
 rw [zeQ] at F0
 refine AC_i [.t (.sl (r.1.map Hit.row)), .t (.sc (.bool r.2))] Tryz.func110 rfl Tryz.ntmps110 ?_
 intro C hC
 refine zb (za ?_)
 refine s_as ?_
 refine s_as ?_
 refine zf (zd (zb (za ?_)))
 refine s_bs Hit.row ([] : List Hit) yP42 yR48 ?_
 refine s_as ?_
 refine zf (zd (zb (za ?_)))
 refine s_as ?_
 refine zf (zd ?_)
 refine zbt (α := Nat × Int) [11, 12, 22, 23, 24, 25, 26, 27, 28, 29, 30, 31, 32, 33, 34, 35] [] [] (fun a => [(11, .t (.sc (.int .i64 a.2)))]) (fun a => []) (fun a => a.1 ≤ fu ∧ zdp a.1 x1 x2 x3 x4 a.2 = some r) ?_ ?_
 refine zb (za ?_)
 refine s_as ?_
 refine zf (zd (zk ?_))
 refine za1 (β := Int × Int) [11, 12, 22, 23, 24, 25, 26, 27, 28, 29, 30, 31, 32, 33, 34, 35] [] [] (fun a => [(11, .t (.sc (.int .i64 a.2.1))), (12, .t (.sc (.int .i64 a.2.2)))]) (fun a => []) (fun a => a.1 ≤ fu ∧ za0 a.1 x1 x2 x3 x4 a.2.1 a.2.2 = some r) (fu, (-1), 0) ⟨Nat.le_refl _, F0⟩ ?_
 clear F0
 rintro ⟨fu, g1, g2⟩ ⟨hl3, F1⟩
 dsimp only at hl3 F1 ⊢
 obtain _ | fu := fu
 · rw [za0] at F1; cases F1
 rw [za0] at F1
 refine zb (zb (za ?_))
 refine s_mv ?_
 refine zO rfl ?_
 refine s_mv ?_
 refine zE yU24 ?_
 refine s_lt ?_
 refine zf (zd ?_)
 refine zm F1 ?_ ?_ <;> intro C4 F2
 refine zi (zd (zb (zk (zb (za ?_)))))
 refine s_mv ?_
 refine s_mv ?_
 refine zO rfl ?_
 obtain ⟨v5, V5, F3⟩ := zc F2
 refine zN Form.row V5 (Form.row_eq _) yE24 ?_
 refine zaq yA32 yS32 ?_
 obtain ⟨v6, V6, F4⟩ := zc F3
 refine zv [] (zaF fu _ _ V6) ?_
 refine zf (zd ?_)
 refine zm F4 ?_ ?_ <;> intro C7 F5
 refine za ?_
 refine s_mv ?_
 refine s_as ?_
 refine zf (z5 (zd (za ?_)))
 refine s_mv ?_
 refine zO rfl ?_
 refine s_as ?_
 refine zf ?_
 exact s_rn (fu, g2, (w64 (g2 + 1))) ⟨by first | omega | (dsimp only; omega), F5⟩
 refine zi (z5 (zd (za ?_)))
 refine s_mv ?_
 refine zO rfl ?_
 refine s_as ?_
 refine zf ?_
 exact s_rn (fu, g1, (w64 (g2 + 1))) ⟨by first | omega | (dsimp only; omega), F5⟩
 refine zz (zq (zp (zr ?_)))
 exact s_jn (fu, g1) ⟨by first | omega | (dsimp only; omega), F2⟩
 clear F0
 rintro ⟨fu, g8⟩ ⟨hl9, F1⟩
 dsimp only at hl9 F1 ⊢
 obtain _ | fu := fu
 · rw [zdp] at F1; cases F1
 rw [zdp] at F1
 refine zbt (α := Nat) [8, 9, 36, 37, 38, 39, 40, 41, 42, 43, 44, 45, 46, 47, 48, 49, 50, 51, 52, 53, 54, 55, 56, 57] [] [] (fun a => []) (fun a => []) (fun a => a ≤ fu ∧ zbK a x1 x2 x3 x4 g8  = some r) ?_ ?_
 refine zb (za ?_)
 refine s_mv ?_
 refine s_lt ?_
 refine s_mv ?_
 refine zo _ 38 F1 ?_ ?_ <;> intro C10 F2
 refine s_mv ?_
 refine zE yU24 ?_
 refine s_mv ?_
 refine zE yU24 ?_
 refine s_ne ?_
 refine zA ?_
 refine s_mv ?_
 refine zo _ 45 F2 ?_ ?_ <;> intro C11 F3
 iterate 10 refine r_no rfl ?_
 refine zA ?_
 refine zf (zd (zM rfl (zb (za ?_))))
 refine s_mv ?_
 refine s_as ?_
 refine s_as ?_
 refine zf (zd (zh (zeW (zn ?_))))
 cases F3
 exact zl [] [21] Tryz.results110
 refine s_mv ?_
 refine s_ge ?_
 refine s_mv ?_
 refine zo _ 48 F3 ?_ ?_ <;> intro C12 F4
 refine s_mv ?_
 refine zE yU24 ?_
 refine s_mv ?_
 refine zE yU24 ?_
 refine zg1 rfl ?_
 refine s_lt ?_
 refine zA ?_
 refine zB ?_
 refine zf (zd ?_)
 refine zm F4 ?_ ?_ <;> intro C13 F5
 refine zb (za ?_)
 refine s_mv ?_
 refine s_as ?_
 refine s_as ?_
 refine zf (zd (zh (zeW (zn ?_))))
 cases F5
 exact zl [] [21] Tryz.results110
 refine zi ?_
 exact s_jn (fu) ⟨by first | omega | (dsimp only; omega), F5⟩
 iterate 6 refine r_no rfl ?_
 refine zB ?_
 refine zB ?_
 refine zf (zd (zaI rfl (zi ?_)))
 exact s_jn (fu) ⟨by first | omega | (dsimp only; omega), F4⟩
 iterate 5 refine r_no rfl ?_
 refine zB ?_
 refine s_mv ?_
 refine s_mv ?_
 refine s_ge ?_
 refine s_mv ?_
 refine zo _ 48 F2 ?_ ?_ <;> intro C14 F3
 refine s_mv ?_
 refine zE yU24 ?_
 refine s_mv ?_
 refine zE yU24 ?_
 refine zg1 rfl ?_
 refine s_lt ?_
 refine zA ?_
 refine zB ?_
 refine zf (zd ?_)
 refine zm F3 ?_ ?_ <;> intro C15 F4
 refine zb (za ?_)
 refine s_mv ?_
 refine s_as ?_
 refine s_as ?_
 refine zf (zd (zh (zeW (zn ?_))))
 cases F4
 exact zl [] [21] Tryz.results110
 refine zi ?_
 exact s_jn (fu) ⟨by first | omega | (dsimp only; omega), F4⟩
 iterate 6 refine r_no rfl ?_
 refine zB ?_
 refine zB ?_
 refine zf (zd (zaI rfl (zi ?_)))
 exact s_jn (fu) ⟨by first | omega | (dsimp only; omega), F3⟩
 clear F1
 rintro fu ⟨hl16, F2⟩
 obtain _ | fu := fu
 · rw [zbK] at F2; cases F2
 rw [zbK] at F2
 refine zb (za ?_)
 refine s_as ?_
 refine zf (zd (zb (zb (za ?_))))
 refine s_as ?_
 refine zf (zd (zk ?_))
 refine zco 10 21 5080 (by conv => lhs; whnf) (by conv => lhs; whnf) rfl ?_
 refine zap [8, 9, 10, 13, 14, 15, 16, 17, 18, 19, 20, 58, 59, 60, 61, 62, 63, 64, 65, 66, 67, 68, 69, 70, 71, 72, 73, 74, 75, 76, 77, 78, 79, 80, 81, 82, 83, 84, 85, 86, 87, 88, 89, 90, 91, 92, 93, 94, 95, 96, 97, 98, 99, 100, 101, 102, 103, 104, 105, 106, 107, 108, 109, 110, 111, 112, 113, 114, 115, 116, 117, 118, 119, 120, 121, 122, 123, 124, 125, 126, 127, 128, 129, 130, 131, 132, 133, 134, 135, 136] [5080] [91, 94, 136, 5120] [5080] (fun a : Nat × Int × (List Hit) × Int => a.1) (fun a : Nat × Int × (List Hit) × Int => [(10, .ar 5080), (13, .t (.sc (.int .i64 a.2.2.2))), (14, .t (.sc (.int .i64 a.2.1)))]) (fun a : Nat × Int × (List Hit) × Int => [(5080, .arr (a.2.2.1.map Hit.row) 48 true)]) (fun a : Nat × Int × (List Hit) × Int => a.1 ≤ fu ∧ zbw a.1 x1 x2 x3 x4 g8 a.2.1 a.2.2.1 a.2.2.2 = some r ∧ 0 ≤ a.2.1) (fu, 0, ([] : List Hit), 0) ⟨Nat.le_refl _, F2, by simp⟩ (by rfl) (by rfl) (fun _ => rfl) (zG (by conv => lhs; whnf) (by rfl) (zG (by conv => lhs; whnf) (by rfl) (zG (by conv => lhs; whnf) (by rfl) za2))) (zT (by conv => lhs; whnf) (by rfl) zaS) (zbV hC rfl) (by repeat (first | exact zad rfl | refine zan rfl ?_ | refine zW rfl ?_)) (by repeat (first | exact zaD | exact zai rfl | refine zao rfl ?_ | refine zX rfl ?_)) ?_
 clear F2
 rintro ⟨fu, g17, g18, g19⟩ ⟨hl20, F3, hn_g17⟩
 dsimp only at hl20 F3 hn_g17 ⊢
 obtain _ | fu := fu
 · rw [zbw] at F3; cases F3
 rw [zbw] at F3
 refine zb (zb (za ?_))
 refine s_mv ?_
 refine s_mv ?_
 refine zE yU24 ?_
 refine s_lt ?_
 refine zf (zd ?_)
 refine zm F3 ?_ ?_ <;> intro C21 F4
 refine zV 1 (fun B22 => ?_)
 refine zi (zd (zb (zk (zb (zb (za ?_))))))
 refine s_mv ?_
 refine s_mv ?_
 obtain ⟨v23, V23, F5⟩ := zc F4
 refine zN Form.row V23 (Form.row_eq _) yE24 ?_
 refine zaq yA32 yS32 ?_
 obtain ⟨v24, V24, F6⟩ := zc F5
 refine zv [] (zaF fu _ _ V24) ?_
 refine zf (zd ?_)
 refine zm F6 ?_ ?_ <;> intro C25 F7
 refine zz (zq (zr (zd (za ?_))))
 refine s_mv ?_
 refine zO (zaA C21 B22 hn_g17) ?_
 refine s_as ?_
 refine zf ?_
 exact s_rn (fu, (g17 + 1), g18, g19) ⟨by first | omega | (dsimp only; omega), F7, by first | omega | (dsimp only; omega)⟩
 refine zi (zd (zb (zb (za ?_))))
 refine s_mv ?_
 refine s_mv ?_
 refine s_ne ?_
 refine zf (zd ?_)
 refine zm F7 ?_ ?_ <;> intro C26 F8
 refine zb ?_
 refine zY yMix (by kernel_rfl) ?_
 iterate 3 refine s_mv ?_
 obtain ⟨v27, V27, F9⟩ := zc F8
 refine zN Form.row V27 (Form.row_eq _) yE24 ?_
 refine zaq yA32 yS32 ?_
 iterate 3 refine s_mv ?_
 obtain ⟨v28, V28, F10⟩ := zc F9
 refine zN Form.row V28 (Form.row_eq _) yE24 ?_
 refine zaq yA32 yS32 ?_
 obtain ⟨v29, V29, F11⟩ := zc F10
 refine zv [] (ih_m_spec_l4Match fu (by omega) _ _ _ _ _ V29) ?_
 refine s_mv ?_
 refine zcp ?_
 refine zcp ?_
 refine s_as ?_
 refine s_as ?_
 refine zal (by kernel_rfl) ?_
 refine zd (zb (zb (za ?_)))
 refine s_mv ?_
 refine zby ?_
 refine zf (zd ?_)
 refine zm F11 ?_ ?_ <;> intro C30 F12
 refine zb (za ?_)
 refine s_mv ?_
 refine s_as ?_
 refine s_as ?_
 refine zf (zd (zh (zg (zg (zj (zg (zx (zj (zg (zn ?_))))))))))
 cases F12
 exact zl [] [5080] Tryz.results110
 refine zi (zd (zb (za ?_)))
 refine s_mv ?_
 refine s_mv ?_
 obtain ⟨hk31, F13⟩ := zah F12
 refine zdT Hit.row (fun y => Hit.row_len y) hk31 yP42 ?_
 refine s_as ?_
 refine zf (zd (zb (za ?_)))
 refine s_mv ?_
 refine zO rfl ?_
 refine s_as ?_
 refine zf (zd (zz (zq (zr (zd (za ?_))))))
 refine s_mv ?_
 refine zO (zaA C21 B22 hn_g17) ?_
 refine s_as ?_
 refine zf ?_
 exact s_rn (fu, (g17 + 1), (g18 ++ v29.1), (w64 (g19 + 1))) ⟨by first | omega | (dsimp only; omega), F13, by first | omega | (dsimp only; omega)⟩ [(5080, 91)]
 refine zi (zd (zb (za ?_)))
 refine s_bs (rL Hit.row) ([] : List (List Hit)) yP142 yR42 ?_
 refine s_as ?_
 refine zf (zd ?_)
 refine zbt (α := Nat × Int × (List (List Hit))) [8, 9, 13, 17, 18, 19, 20, 95, 96, 97, 98, 99, 100, 101, 102, 103, 104, 105, 106, 107, 108, 109, 110, 111, 112, 113, 114, 115, 116, 117, 118, 119, 120, 121, 122, 123, 124, 125, 126, 127] [94, 5120] [] (fun a => [(13, .t (.sc (.int .i64 a.2.1))), (17, .ar 5120)]) (fun a => [(94, .dead), (5120, .arr (a.2.2.map (rL Hit.row)) 42 true)]) (fun a => a.1 ≤ fu ∧ zdo a.1 x1 x2 x3 x4 g8 g17 g18 a.2.1 a.2.2 = some r) ?_ ?_
 refine zb (za ?_)
 refine s_mv ?_
 refine zE yU24 ?_
 refine s_mv ?_
 refine zE yU24 ?_
 refine zg1 rfl ?_
 refine zg1 rfl ?_
 refine s_as ?_
 refine zf (zd (zk ?_))
 refine zco 17 94 5120 (by conv => lhs; whnf) (by conv => lhs; whnf) rfl ?_
 refine zap [8, 9, 13, 17, 18, 19, 20, 101, 102, 103, 104, 105, 106, 107, 108, 109, 110, 111, 112, 113, 114, 115, 116, 117, 118, 119, 120, 121, 122, 123, 124, 125, 126, 127] [5120] [124, 125] [5120] (fun a : Nat × Int × (List (List Hit)) × Int => a.1) (fun a : Nat × Int × (List (List Hit)) × Int => [(13, .t (.sc (.int .i64 a.2.1))), (17, .ar 5120), (18, .t (.sc (.int .i64 a.2.2.2)))]) (fun a : Nat × Int × (List (List Hit)) × Int => [(5120, .arr (a.2.2.1.map (rL Hit.row)) 42 true)]) (fun a : Nat × Int × (List (List Hit)) × Int => a.1 ≤ fu ∧ zcg a.1 x1 x2 x3 x4 g8 g17 g18 a.2.1 a.2.2.1 a.2.2.2 = some r) (fu, g19, ([] : List (List Hit)), (w64 ((x4.length : Int) - (w64 ((x2.length : Int) - 2))))) ⟨Nat.le_refl _, F8⟩ (by rfl) (by rfl) (fun _ => rfl) (zG (by conv => lhs; whnf) (by rfl) (zG (by conv => lhs; whnf) (by rfl) (zG (by conv => lhs; whnf) (by rfl) za2))) (zT (by conv => lhs; whnf) (by rfl) zaS) (zbV hC rfl) (by repeat (first | exact zad rfl | refine zan rfl ?_ | refine zW rfl ?_)) (by repeat (first | exact zaD | exact zai rfl | refine zao rfl ?_ | refine zX rfl ?_)) ?_
 clear F8
 rintro ⟨fu, g32, g33, g34⟩ ⟨hl35, F9⟩
 dsimp only at hl35 F9 ⊢
 obtain _ | fu := fu
 · rw [zcg] at F9; cases F9
 rw [zcg] at F9
 refine zb (zb (za ?_))
 refine s_mv ?_
 refine s_gt ?_
 refine zf (zd ?_)
 refine zm F9 ?_ ?_ <;> intro C36 F10
 refine zi (zd (zb (zk (zb ?_))))
 refine zY yMix (by kernel_rfl) ?_
 iterate 3 refine s_mv ?_
 obtain ⟨v37, V37, F11⟩ := zc F10
 refine zN Form.row V37 (Form.row_eq _) yE24 ?_
 refine zaq yA32 yS32 ?_
 iterate 3 refine s_mv ?_
 obtain ⟨v38, V38, F12⟩ := zc F11
 refine zN Form.row V38 (Form.row_eq _) yE24 ?_
 refine zaq yA32 yS32 ?_
 obtain ⟨v39, V39, F13⟩ := zc F12
 refine zv [] (ih_m_spec_l4Match fu (by omega) _ _ _ _ _ V39) ?_
 refine s_mv ?_
 refine zcp ?_
 refine zcp ?_
 refine s_as ?_
 refine s_as ?_
 refine zal (by kernel_rfl) ?_
 refine zd (zb (zb (za ?_)))
 refine s_mv ?_
 refine zby ?_
 refine zf (zd ?_)
 refine zm F13 ?_ ?_ <;> intro C40 F14
 refine zb (za ?_)
 refine s_mv ?_
 refine s_as ?_
 refine s_as ?_
 refine zf (zd (zh (zg (zj (zg (zx (zj (zeW (zj (zg (zx (zj (zg (zn ?_))))))))))))))
 cases F14
 exact zl [] [5080] Tryz.results110
 refine zi (zd (zb (za ?_)))
 refine s_mv ?_
 refine s_mv ?_
 refine s_bs (rL Hit.row) [v39.1] yP142 yR42 ?_
 obtain ⟨hk41, F15⟩ := zah F14
 refine zdT (rL Hit.row) (fun _ => rfl) hk41 yP142 ?_
 refine s_as ?_
 refine zf (zd (za ?_))
 refine s_mv ?_
 refine zO rfl ?_
 refine s_as ?_
 refine zf (z5 (zd (za ?_)))
 refine s_mv ?_
 refine zg1 rfl ?_
 refine s_as ?_
 refine zf ?_
 exact s_rn (fu, (w64 (g32 + 1)), (g33 ++ [v39.1]), (w64 (g34 - 1))) ⟨by first | omega | (dsimp only; omega), F15⟩ [(5120, 125)]
 refine zz (zq (zp (zr ?_)))
 exact s_jn (fu, g32, g33) ⟨by first | omega | (dsimp only; omega), F10⟩
 clear F8
 rintro ⟨fu, g42, g43⟩ ⟨hl44, F9⟩
 dsimp only at hl44 F9 ⊢
 obtain _ | fu := fu
 · rw [zdo] at F9; cases F9
 rw [zdo] at F9
 refine za ?_
 iterate 3 refine s_mv ?_
 obtain ⟨v45, V45, F10⟩ := zc F9
 refine zN Form.row V45 (Form.row_eq _) yE24 ?_
 refine zaq yA32 yS32 ?_
 refine s_mv ?_
 refine s_mv ?_
 obtain ⟨v46, V46, F11⟩ := zc F10
 refine zv [5120] (m_spec_l4Row_ok fu _ _ _ _ V46) ?_
 obtain ⟨hk47, F12⟩ := zah F11
 refine zdT Hit.row (fun y => Hit.row_len y) hk47 yP42 ?_
 refine s_as ?_
 refine zf (z5 (zd (za ?_)))
 refine s_mv ?_
 refine zO (zaA C21 B22 hn_g17) ?_
 refine s_as ?_
 refine zf ?_
 exact s_rn (fu, (g17 + 1), (g18 ++ v46), g42) ⟨by first | omega | (dsimp only; omega), F12, by first | omega | (dsimp only; omega)⟩ [(5080, 136)]
 refine zz (zq (zp (zr (zd (zb (za ?_))))))
 refine s_mv ?_
 refine s_as ?_
 refine s_as ?_
 refine zf (zd (zh (zn ?_)))
 cases F4
 exact zl [] [5080] Tryz.results110
theorem m_spec_l4Match_st (fu : Nat) (ih_m_spec_l4List : ∀ k, k ≤ fu → zff k) (ih_m_spec_l4Match : ∀ k, k ≤ fu → zdL k) : zdL (fu + 1) := by
 intro x1 x2 x3 x4 r F0
 rw [zbX] at F0
 refine AC_i [.t (.sl (r.1.map Hit.row)), .t (.sc (.bool r.2))] Tryz.func55 rfl Tryz.ntmps55 ?_
 intro C hC
 refine zb (za ?_)
 refine zbh ?_
 refine zbh ?_
 refine s_as ?_
 refine s_as ?_
 refine zf (zd (zb (za ?_)))
 refine s_bs Hit.row ([] : List Hit) yP42 yR48 ?_
 refine s_as ?_
 refine zf (zd (zb (zb (za ?_))))
 refine s_fa zc2 ?_
 refine zu yA3 ?_
 refine s_eq ?_
 refine zf (zd ?_)
 refine zm F0 ?_ ?_ <;> intro C1 F1
 refine zb (zb (za ?_))
 refine s_fa zdm ?_
 refine zu yA9 ?_
 refine zg3 ?_
 refine zf (zd ?_)
 refine zm F1 ?_ ?_ <;> intro C2 F2
 refine zb (za ?_)
 refine s_mv ?_
 refine s_as ?_
 refine s_as ?_
 refine zf (zd (zh (zg (zg (zn ?_)))))
 cases F2
 exact zl [] [11] Tryz.results55
 refine zi (zd (zb (zb (za ?_))))
 refine s_mv ?_
 refine zK yA32 yS32 ?_
 obtain ⟨v3, V3, F3⟩ := zc F2
 refine zv [] (zf6 fu _ _ _ V3) ?_
 refine zf (zd ?_)
 refine zm F3 ?_ ?_ <;> intro C4 F4
 refine zbt (α := Nat × Bool) [8, 9, 22, 23, 24, 25, 26, 27, 28, 29, 30, 31] [] [] (fun a => [(8, .ar 11), (9, .t (.sc (.bool a.2)))]) (fun a => []) (fun a => a.1 ≤ fu ∧ zct a.1  a.2 = some r) ?_ ?_
 refine za ?_
 refine s_mv ?_
 refine s_fa zc2 ?_
 refine zu yA3 ?_
 refine s_eq ?_
 refine s_mv ?_
 refine zo _ 26 F4 ?_ ?_ <;> intro C5 F5
 refine s_mv ?_
 refine zK yA32 yS32 ?_
 refine zK yA32 yS32 ?_
 obtain ⟨v6, V6, F6⟩ := zc F5
 refine zv [] (m_spec_l3Same_ok fu _ _ _ _ V6) ?_
 refine zA ?_
 refine s_as ?_
 refine s_as ?_
 refine zf ?_
 exact s_jn (fu, v6) ⟨by first | omega | (dsimp only; omega), F6⟩
 iterate 4 refine r_no rfl ?_
 refine zB ?_
 refine s_as ?_
 refine s_as ?_
 refine zf ?_
 exact s_jn (fu, false) ⟨by first | omega | (dsimp only; omega), F5⟩
 clear F4
 rintro ⟨fu, g7⟩ ⟨hl8, F5⟩
 dsimp only at hl8 F5 ⊢
 obtain _ | fu := fu
 · rw [zct] at F5; cases F5
 rw [zct] at F5
 refine zh (zg (zg (zn ?_)))
 cases F5
 exact zl [] [11] Tryz.results55
 refine zi (zd (zb (za ?_)))
 refine s_mv ?_
 refine zK yA32 yS32 ?_
 refine zK yA32 yS32 ?_
 refine zeC yZ48 yL48 ?_
 refine s_bs Hit.row [(Hit.mk x2 0 x4 ([] : List Hit))] yP42 yR48 ?_
 obtain ⟨hk9, F5⟩ := zah F4
 refine zdT Hit.row (fun y => Hit.row_len y) hk9 yP42 ?_
 refine s_as ?_
 refine s_as ?_
 refine zf (zd (zh (zg (zn ?_))))
 cases F5
 exact zl [] [37] Tryz.results55
 refine zi (zd (zb (zb (za ?_))))
 refine s_fa zc2 ?_
 refine zu yA3 ?_
 refine s_eq ?_
 refine zf (zd ?_)
 refine zm F1 ?_ ?_ <;> intro C10 F2
 refine zb (za ?_)
 refine s_mv ?_
 refine zK yA32 yS32 ?_
 refine zK yA32 yS32 ?_
 obtain ⟨v11, V11, F3⟩ := zc F2
 refine zv [] (zb0 fu _ _ _ V11) ?_
 refine s_as ?_
 refine s_as ?_
 refine zf (zd (zh (zg (zn ?_))))
 cases F3
 exact zl [] [11] Tryz.results55
 refine zi (zd (zb (zb (za ?_))))
 refine s_fa zc2 ?_
 refine zu yA3 ?_
 refine s_ne ?_
 refine zf (zd ?_)
 refine zm F2 ?_ ?_ <;> intro C12 F3
 refine zb (za ?_)
 refine s_mv ?_
 refine s_as ?_
 refine s_as ?_
 refine zf (zd (zh (zg (zn ?_))))
 cases F3
 exact zl [] [11] Tryz.results55
 refine zi (zd (zb (za ?_)))
 refine s_mv ?_
 refine s_fa zH ?_
 refine zu yA24 ?_
 refine s_mv ?_
 refine s_fa zH ?_
 refine zu yA24 ?_
 obtain ⟨v13, V13, F4⟩ := zc F3
 refine zv [] (ih_m_spec_l4List fu (by omega) _ _ _ _ _ V13) ?_
 refine zcp ?_
 refine zcp ?_
 refine s_as ?_
 refine s_as ?_
 refine zf (zd (zh (zn ?_)))
 cases F4
 exact zl [] [] Tryz.results55
theorem m_spec_l4List_all (fuel : Nat) : zff fuel ∧ zdL fuel := by
 induction fuel using Nat.strongRecOn with
 | _ N ih =>
   cases N with
   | zero => exact ⟨(by intro x1 x2 x3 x4 r h; rw [zeQ] at h; cases h), (by intro x1 x2 x3 x4 r h; rw [zbX] at h; cases h)⟩
   | succ fu => exact ⟨m_spec_l4List_st fu (fun k hk => (ih k (by omega)).1) (fun k hk => (ih k (by omega)).2), m_spec_l4Match_st fu (fun k hk => (ih k (by omega)).1) (fun k hk => (ih k (by omega)).2)⟩
theorem zg7 (fuel : Nat) : zdL fuel := (m_spec_l4List_all fuel).2
def m_spec_FirstRule_AC (fuel : Nat) : Prop := ∀ (x1 : (List Bind)) (x2 : (List Rule)) (x3 : (List Form)) (x4 : Form) (r : (Int × Bool)), zel fuel x1 x2 x3 x4 = some r → AC Tryz.prog 54 [.t (.sl (x1.map Bind.row)), .t (.sl (x2.map Rule.row)), .t (.sl (x3.map Form.row)), .ag [.t (.sc (.int .i64 x4.kind)), .t (.sc (.str x4.name)), .t (.sc (.int .i64 x4.n)), .t (.sl (x4.scopes.map rI)), .t (.sl (x4.kids.map Form.row))]] noOb (.tp [.t (.sc (.int .i64 r.1)), .t (.sc (.bool r.2))]) noOb
theorem m_spec_FirstRule_ok (fuel : Nat) : m_spec_FirstRule_AC fuel := by
 intro x1 x2 x3 x4 r F0
 unfold zel at F0
 refine AC_i [.t (.sc (.int .i64 r.1)), .t (.sc (.bool r.2))] Tryz.func54 rfl Tryz.ntmps54 ?_
 intro C hC
 refine zb (za ?_)
 refine zbh ?_
 refine s_as ?_
 refine s_as ?_
 refine zf (zd (zb ?_))
 refine zbt (α := Nat × Bool) [13, 14, 15, 16, 17, 18, 19, 20, 21, 22, 23, 24, 25, 26] [] [] (fun a => [(26, .t (.sc (.bool a.2)))]) (fun a => []) (fun a => a.1 ≤ fuel ∧ zaX a.1 x1 x2 x3 x4 a.2 = some r) ?_ ?_
 refine za ?_
 refine s_mv ?_
 obtain ⟨v1, V1, F1⟩ := zc F0
 refine zv [] (zgn fuel _ _ V1) ?_
 refine zby ?_
 refine s_mv ?_
 refine zo _ 16 F1 ?_ ?_ <;> intro C2 F2
 iterate 4 refine r_no rfl ?_
 refine zA ?_
 refine s_mv ?_
 iterate 3 refine r_no rfl ?_
 refine zA ?_
 refine zf ?_
 exact s_jn (fuel, true) ⟨by first | omega | (dsimp only; omega), F2⟩
 refine s_mv ?_
 refine s_mv ?_
 obtain ⟨v3, V3, F3⟩ := zc F2
 refine zv [] (zg5 fuel _ _ _ V3) ?_
 refine zby ?_
 refine zB ?_
 refine s_mv ?_
 refine zo _ 22 F3 ?_ ?_ <;> intro C4 F4
 iterate 3 refine r_no rfl ?_
 refine zA ?_
 refine zf ?_
 exact s_jn (fuel, true) ⟨by first | omega | (dsimp only; omega), F4⟩
 refine zK yA32 yS32 ?_
 obtain ⟨v5, V5, F5⟩ := zc F4
 refine zv [] (zaJ fuel _ _ V5) ?_
 refine zby ?_
 refine zB ?_
 refine zf ?_
 exact s_jn (fuel, (!v5)) ⟨by first | omega | (dsimp only; omega), F5⟩
 clear F0
 rintro ⟨fu, g6⟩ ⟨hl7, F1⟩
 dsimp only at hl7 F1 ⊢
 obtain _ | fu := fu
 · rw [zaX] at F1; cases F1
 rw [zaX] at F1
 refine zm F1 ?_ ?_ <;> intro C8 F2
 refine zb (za ?_)
 refine s_as ?_
 refine s_as ?_
 refine zf (zd (zh (zg (zn ?_))))
 cases F2
 exact zl [] [] Tryz.results54
 refine zi (zd (zb (zb (za ?_))))
 refine s_as ?_
 refine zf (zd (zk ?_))
 refine za1 (β := Int) [8, 9, 10, 11, 12, 27, 28, 29, 30, 31, 32, 33, 34, 35, 36, 37, 38, 39, 40, 41, 42, 43, 44, 45, 46] [] [] (fun a => [(10, .t (.sc (.int .i64 a.2)))]) (fun a => []) (fun a => a.1 ≤ fu ∧ zbo a.1 x1 x2 x3 x4 a.2 = some r ∧ 0 ≤ a.2) (fu, 0) ⟨Nat.le_refl _, F2, by simp⟩ ?_
 clear F2
 rintro ⟨fu, g9⟩ ⟨hl10, F3, hn_g9⟩
 dsimp only at hl10 F3 hn_g9 ⊢
 obtain _ | fu := fu
 · rw [zbo] at F3; cases F3
 rw [zbo] at F3
 refine zb (zb (za ?_))
 refine s_mv ?_
 refine s_mv ?_
 refine zE yU23 ?_
 refine s_lt ?_
 refine zf (zd ?_)
 refine zm F3 ?_ ?_ <;> intro C11 F4
 refine zV 1 (fun B12 => ?_)
 refine zi (zd (zb (zk (zb ?_))))
 refine zY yMix (by kernel_rfl) ?_
 iterate 3 refine s_mv ?_
 obtain ⟨v13, V13, F5⟩ := zc F4
 refine zN Rule.row V13 (Rule.row_eq _) yE23 ?_
 refine s_fa yF37_0 ?_
 refine zaq yA32 yS32 ?_
 refine s_mv ?_
 refine zK yA32 yS32 ?_
 obtain ⟨v14, V14, F6⟩ := zc F5
 refine zv [] (zg7 fu _ _ _ _ _ V14) ?_
 refine s_mv ?_
 refine zcp ?_
 refine zcp ?_
 refine s_as ?_
 refine s_as ?_
 refine zal (by kernel_rfl) ?_
 refine zd (zb (za ?_))
 refine s_mv ?_
 refine zf (zd ?_)
 refine zm F6 ?_ ?_ <;> intro C15 F7
 refine zb (za ?_)
 refine s_mv ?_
 refine s_as ?_
 refine s_as ?_
 refine zf (zd (zh (zj (zg (zx (zj (zg (zn ?_))))))))
 cases F7
 exact zl [] [] Tryz.results54
 refine zi (z5 (zd (za ?_)))
 refine s_mv ?_
 refine zO (zaA C11 B12 hn_g9) ?_
 refine s_as ?_
 refine zf ?_
 exact s_rn (fu, (g9 + 1)) ⟨by first | omega | (dsimp only; omega), F7, by first | omega | (dsimp only; omega)⟩
 refine zz (zq (zp (zr (zd (zb (za ?_))))))
 refine s_as ?_
 refine s_as ?_
 refine zf (zd (zh (zn ?_)))
 cases F4
 exact zl [] [] Tryz.results54
def m_spec_l1Name_AC (fuel : Nat) : Prop := ∀ (x1 : ByteArray) (r : Form), zdY fuel x1 = some r → AC Tryz.prog 133 [.t (.sc (.str x1))] noOb (.ag [.t (.sc (.int .i64 r.kind)), .t (.sc (.str r.name)), .t (.sc (.int .i64 r.n)), .t (.sl (r.scopes.map rI)), .t (.sl (r.kids.map Form.row))]) noOb
theorem m_spec_l1Name_ok (fuel : Nat) : m_spec_l1Name_AC fuel := by
 intro x1 r F0
 unfold zdY at F0
 refine AC_i [.ag [.t (.sc (.int .i64 r.kind)), .t (.sc (.str r.name)), .t (.sc (.int .i64 r.n)), .t (.sl (r.scopes.map rI)), .t (.sl (r.kids.map Form.row))]] Tryz.func133 rfl Tryz.ntmps133 ?_
 intro C hC
 refine zb (za ?_)
 refine z6 yZ32 ?_
 refine zf (zd (zb (za ?_)))
 refine s_mv ?_
 refine zeC yZ32 yL32 ?_
 refine zac yS32 ?_
 refine zf (zd (zh (zn ?_)))
 cases F0
 exact zI [] [] (by rw [Tryz.results133]; exact (z8 (by conv => lhs; whnf) (by conv => lhs; whnf) yA32 yS32 rfl zR))
def zfg (fuel : Nat) : Prop := ∀ (o1 : za3) (x2 : Int) (r : (Form × za3)), zdw fuel o1 x2 = some r → AC Tryz.prog 83 [.rf 9000 0, .t (.sc (.int .i64 x2))] (objs [(9000, .box [.t (.sl (o1.b.map rB)), .t (.sc (.int .i64 o1.p))])]) (.ag [.t (.sc (.int .i64 r.1.kind)), .t (.sc (.str r.1.name)), .t (.sc (.int .i64 r.1.n)), .t (.sl (r.1.scopes.map rI)), .t (.sl (r.1.kids.map Form.row))]) (objs [(9000, .box [.t (.sl (r.2.b.map rB)), .t (.sc (.int .i64 r.2.p))])])
theorem m_spec_l1Some_st (fu : Nat) (ih_m_spec_l1Some : ∀ k, k ≤ fu → zfg k) : zfg (fu + 1) := by
 intro o1 x2 r F0
 rw [zdw] at F0
 refine AC_i [.ag [.t (.sc (.int .i64 r.1.kind)), .t (.sc (.str r.1.name)), .t (.sc (.int .i64 r.1.n)), .t (.sl (r.1.scopes.map rI)), .t (.sl (r.1.kids.map Form.row))]] Tryz.func83 rfl Tryz.ntmps83 ?_
 intro C hC
 refine zb (za ?_)
 refine z6 yZ32 ?_
 refine zf (zd (zb (zb (za ?_))))
 refine s_mv ?_
 refine s_eq ?_
 refine s_mv ?_
 refine zo _ 9 F0 ?_ ?_ <;> intro C1 F1
 iterate 3 refine r_no rfl ?_
 refine zA ?_
 refine zf (zd (zM rfl (zb (zb (za ?_)))))
 refine s_mv ?_
 obtain ⟨v2, V2, F2⟩ := zc F1
 refine zZ [(9000, 9000)] [] _ _ (zQ fu _ _ _ V2) ?_
 refine s_eq ?_
 refine zf (zd ?_)
 refine zm F2 ?_ ?_ <;> intro C3 F3
 refine zb (za ?_)
 refine s_mv ?_
 refine s_bs rI [0, 1, 2, 7, 42, 999] yP27 yR3 ?_
 obtain ⟨v4, V4, F4⟩ := zc F3
 refine zZ [(9000, 9000)] [18] _ _ (zbk fu _ _ _ V4) ?_
 refine zeC yZ32 yL32 ?_
 refine zac yS32 ?_
 refine zf (zd (zh (zg (zg (zn ?_)))))
 cases F4
 exact zI _ [] (by rw [Tryz.results83]; exact (z8 (by conv => lhs; whnf) (by conv => lhs; whnf) yA32 yS32 rfl zR))
 refine zi (zd (zb (za ?_)))
 refine s_mv ?_
 refine s_bs rS [(⟨#[97]⟩ : ByteArray), (⟨#[98]⟩ : ByteArray), (⟨#[120]⟩ : ByteArray), (⟨#[121]⟩ : ByteArray), (⟨#[102]⟩ : ByteArray), (⟨#[105, 102]⟩ : ByteArray), (⟨#[108, 101, 116]⟩ : ByteArray), (⟨#[43]⟩ : ByteArray)] yP51 yR9 ?_
 obtain ⟨v5, V5, F4⟩ := zc F3
 refine zZ [(9000, 9000)] [22] _ _ (zdx fu _ _ _ V5) ?_
 obtain ⟨v6, V6, F5⟩ := zc F4
 refine zv [] (m_spec_l1Name_ok fu _ _ V6) ?_
 refine zac yS32 ?_
 refine zf (zd (zh (zg (zn ?_))))
 cases F5
 exact zI _ [] (by rw [Tryz.results83]; exact (z8 (by conv => lhs; whnf) (by conv => lhs; whnf) yA32 yS32 rfl zR))
 refine s_mv ?_
 obtain ⟨v7, V7, F2⟩ := zc F1
 refine zZ [(9000, 9000)] [] _ _ (zQ fu _ _ _ V7) ?_
 refine s_eq ?_
 refine zB ?_
 refine zf (zd ?_)
 refine zm F2 ?_ ?_ <;> intro C8 F3
 refine zb (zb (za ?_))
 refine s_mv ?_
 obtain ⟨v9, V9, F4⟩ := zc F3
 refine zZ [(9000, 9000)] [] _ _ (zQ fu _ _ _ V9) ?_
 refine s_eq ?_
 refine zf (zd ?_)
 refine zm F4 ?_ ?_ <;> intro C10 F5
 refine zb (za ?_)
 refine s_mv ?_
 refine s_bs rI [0, 1, 2, 7, 42, 999] yP27 yR3 ?_
 obtain ⟨v11, V11, F6⟩ := zc F5
 refine zZ [(9000, 9000)] [18] _ _ (zbk fu _ _ _ V11) ?_
 refine zeC yZ32 yL32 ?_
 refine zac yS32 ?_
 refine zf (zd (zh (zg (zg (zn ?_)))))
 cases F6
 exact zI _ [] (by rw [Tryz.results83]; exact (z8 (by conv => lhs; whnf) (by conv => lhs; whnf) yA32 yS32 rfl zR))
 refine zi (zd (zb (za ?_)))
 refine s_mv ?_
 refine s_bs rS [(⟨#[97]⟩ : ByteArray), (⟨#[98]⟩ : ByteArray), (⟨#[120]⟩ : ByteArray), (⟨#[121]⟩ : ByteArray), (⟨#[102]⟩ : ByteArray), (⟨#[105, 102]⟩ : ByteArray), (⟨#[108, 101, 116]⟩ : ByteArray), (⟨#[43]⟩ : ByteArray)] yP51 yR9 ?_
 obtain ⟨v12, V12, F6⟩ := zc F5
 refine zZ [(9000, 9000)] [22] _ _ (zdx fu _ _ _ V12) ?_
 obtain ⟨v13, V13, F7⟩ := zc F6
 refine zv [] (m_spec_l1Name_ok fu _ _ V13) ?_
 refine zac yS32 ?_
 refine zf (zd (zh (zg (zn ?_))))
 cases F7
 exact zI _ [] (by rw [Tryz.results83]; exact (z8 (by conv => lhs; whnf) (by conv => lhs; whnf) yA32 yS32 rfl zR))
 refine zi (zd (zb (za ?_)))
 refine zeC yZ32 yL32 ?_
 refine z6 yZ32 ?_
 refine zac yS32 ?_
 refine zf (zd (zb (zb (za ?_))))
 refine s_mv ?_
 obtain ⟨v14, V14, F4⟩ := zc F3
 refine zZ [(9000, 9000)] [] _ _ (zQ fu _ _ _ V14) ?_
 refine s_as ?_
 refine zf (zd (zk ?_))
 refine zgW 5 5020 32 [.t (.sc (.int .i64 3)), .t (.sc (.str (⟨#[]⟩ : ByteArray))), .t (.sc (.int .i64 0)), .nl, .ar 5020] yI32.choose_spec ?_
 refine zap [6, 28, 29, 30, 31, 32, 33, 34, 35, 36, 37, 38, 39, 40] [5, 5020, 9000] [38, 39] [5020] (fun a : Nat × Int × (List Int) × Int × (List Form) => a.1) (fun a : Nat × Int × (List Int) × Int × (List Form) => [(6, .t (.sc (.int .i64 a.2.1)))]) (fun a : Nat × Int × (List Int) × Int × (List Form) => [(5, .box [.t (.sc (.int .i64 3)), .t (.sc (.str (⟨#[]⟩ : ByteArray))), .t (.sc (.int .i64 0)), .nl, .ar 5020]), (5020, .arr (a.2.2.2.2.map Form.row) 32 true), (9000, .box [.t (.sl (a.2.2.1.map rB)), .t (.sc (.int .i64 a.2.2.2.1))])]) (fun a : Nat × Int × (List Int) × Int × (List Form) => a.1 ≤ fu ∧ zcj a.1 x2 a.2.1 a.2.2.1 a.2.2.2.1 a.2.2.2.2 = some r) (fu, v14.1, v14.2.b, v14.2.p, ([] : List Form)) ⟨Nat.le_refl _, F4⟩ (by rfl) (by rfl) (fun _ => rfl) (zG (by conv => lhs; whnf) (by rfl) za2) (zT (by conv => lhs; whnf) (by rfl) (zT (by conv => lhs; whnf) (by rfl) (zT (by conv => lhs; whnf) (by rfl) zaS))) (zbV hC rfl) (by repeat (first | exact zad rfl | refine zan rfl ?_ | refine zW rfl ?_)) (by repeat (first | exact zaD | exact zai rfl | refine zao rfl ?_ | refine zX rfl ?_)) ?_
 clear F4
 rintro ⟨fu, g15, g16, g17, g18⟩ ⟨hl19, F5⟩
 dsimp only at hl19 F5 ⊢
 obtain _ | fu := fu
 · rw [zcj] at F5; cases F5
 rw [zcj] at F5
 refine zb (zb (za ?_))
 refine s_mv ?_
 refine s_gt ?_
 refine zf (zd ?_)
 refine zm F5 ?_ ?_ <;> intro C20 F6
 refine zi (zd (zb (zk ?_)))
 refine zY yMix (by kernel_rfl) ?_
 refine s_fa zH ?_
 refine zu yA24 ?_
 refine s_mv ?_
 refine s_mv ?_
 refine zg1 rfl ?_
 obtain ⟨v21, V21, F7⟩ := zc F6
 refine zZ [(9000, 9000)] [] _ _ (ih_m_spec_l1Some fu (by omega) _ _ _ V21) ?_
 refine s_bs Form.row [v21.1] yP24 yR32 ?_
 obtain ⟨hk22, F8⟩ := zah F7
 refine zdT Form.row (fun y => Form.row_len y) hk22 yP24 ?_
 refine s_fa zH ?_
 refine zgJ yS24 ?_
 refine zal (by kernel_rfl) ?_
 refine z5 (zd (za ?_))
 refine s_mv ?_
 refine zg1 rfl ?_
 refine s_as ?_
 refine zf ?_
 exact s_rn (fu, (w64 (g15 - 1)), v21.2.b, v21.2.p, (g18 ++ [v21.1])) ⟨by first | omega | (dsimp only; omega), F8⟩ [(5020, 39)]
 refine zz (zq (zp (zr (zd (zb (za ?_))))))
 refine zK yA32 yS32 ?_
 refine zac yS32 ?_
 refine zf (zd (zh (zn ?_)))
 cases F6
 exact zI _ [5020] (by rw [Tryz.results83]; exact (z8 (by conv => lhs; whnf) (by conv => lhs; whnf) yA32 yS32 rfl zR))
theorem m_spec_l1Some_all (fuel : Nat) : zfg fuel := by
 induction fuel using Nat.strongRecOn with
 | _ N ih =>
   cases N with
   | zero => exact (by intro o1 x2 r h; rw [zdw] at h; cases h)
   | succ fu => exact m_spec_l1Some_st fu (fun k hk => (ih k (by omega)))
theorem m_spec_l1Some_ok (fuel : Nat) : zfg fuel := (m_spec_l1Some_all fuel)
def zdX (fuel : Nat) : Prop := ∀ (x1 : Hit) (r : Hit), zbM fuel x1 = some r → AC Tryz.prog 158 [.ag [.t (.sc (.int .i64 x1.name.kind)), .t (.sc (.str x1.name.name)), .t (.sc (.int .i64 x1.name.n)), .t (.sl (x1.name.scopes.map rI)), .t (.sl (x1.name.kids.map Form.row)), .t (.sc (.int .i64 x1.depth)), .t (.sc (.int .i64 x1.one.kind)), .t (.sc (.str x1.one.name)), .t (.sc (.int .i64 x1.one.n)), .t (.sl (x1.one.scopes.map rI)), .t (.sl (x1.one.kids.map Form.row)), .t (.sl (x1.many.map Hit.row))]] noOb (.ag [.t (.sc (.int .i64 r.name.kind)), .t (.sc (.str r.name.name)), .t (.sc (.int .i64 r.name.n)), .t (.sl (r.name.scopes.map rI)), .t (.sl (r.name.kids.map Form.row)), .t (.sc (.int .i64 r.depth)), .t (.sc (.int .i64 r.one.kind)), .t (.sc (.str r.one.name)), .t (.sc (.int .i64 r.one.n)), .t (.sl (r.one.scopes.map rI)), .t (.sl (r.one.kids.map Form.row)), .t (.sl (r.many.map Hit.row))]) noOb
theorem m_spec_l4CopyHit_st (fu : Nat) (ih_m_spec_l4CopyHit : ∀ k, k ≤ fu → zdX k) : zdX (fu + 1) := by
 intro x1 r F0
 rw [zbM] at F0
 refine AC_i [.ag [.t (.sc (.int .i64 r.name.kind)), .t (.sc (.str r.name.name)), .t (.sc (.int .i64 r.name.n)), .t (.sl (r.name.scopes.map rI)), .t (.sl (r.name.kids.map Form.row)), .t (.sc (.int .i64 r.depth)), .t (.sc (.int .i64 r.one.kind)), .t (.sc (.str r.one.name)), .t (.sc (.int .i64 r.one.n)), .t (.sl (r.one.scopes.map rI)), .t (.sl (r.one.kids.map Form.row)), .t (.sl (r.many.map Hit.row))]] Tryz.func158 rfl Tryz.ntmps158 ?_
 intro C hC
 refine zb (za ?_)
 refine zbh ?_
 refine z6 yZ48 ?_
 refine zf (zd (zb ?_))
 refine zY yMix (by kernel_rfl) ?_
 refine s_fa zeX ?_
 refine zaq yA32 yS32 ?_
 obtain ⟨v1, V1, F1⟩ := zc F0
 refine zZ [(9203, 2007), (9204, 12007)] [] _ _ (zbN fu _ _ V1) ?_
 refine s_fa zfD ?_
 refine zu yA3 ?_
 refine s_fa yF48_2 ?_
 refine zaq yA32 yS32 ?_
 obtain ⟨v2, V2, F2⟩ := zc F1
 refine zZ [(9203, 2012), (9204, 12012)] [] _ _ (zbN fu _ _ V2) ?_
 refine zeC yZ48 yL48 ?_
 refine z6 yZ48 ?_
 refine zac yS48 ?_
 refine zal (by kernel_rfl) ?_
 refine zd (zb (zb (za ?_)))
 refine s_as ?_
 refine zf (zd (zk ?_))
 refine zgW 3 5020 48 [.t (.sc (.int .i64 v1.kind)), .t (.sc (.str v1.name)), .t (.sc (.int .i64 v1.n)), .ar 2007, .ar 12007, .t (.sc (.int .i64 x1.depth)), .t (.sc (.int .i64 v2.kind)), .t (.sc (.str v2.name)), .t (.sc (.int .i64 v2.n)), .ar 2012, .ar 12012, .ar 5020] yI48.choose_spec ?_
 refine zap [4, 14, 15, 16, 17, 18, 19, 20, 21, 22, 23, 24, 25, 26, 27, 28, 29, 30, 31] [3, 5020] [29, 30] [5020] (fun a : Nat × Int × (List Hit) => a.1) (fun a : Nat × Int × (List Hit) => [(4, .t (.sc (.int .i64 a.2.1)))]) (fun a : Nat × Int × (List Hit) => [(3, .box [.t (.sc (.int .i64 v1.kind)), .t (.sc (.str v1.name)), .t (.sc (.int .i64 v1.n)), .ar 2007, .ar 12007, .t (.sc (.int .i64 x1.depth)), .t (.sc (.int .i64 v2.kind)), .t (.sc (.str v2.name)), .t (.sc (.int .i64 v2.n)), .ar 2012, .ar 12012, .ar 5020]), (5020, .arr (a.2.2.map Hit.row) 48 true)]) (fun a : Nat × Int × (List Hit) => a.1 ≤ fu ∧ zbO a.1 x1 v1 v2 a.2.1 a.2.2 = some r ∧ 0 ≤ a.2.1) (fu, 0, ([] : List Hit)) ⟨Nat.le_refl _, F2, by simp⟩ (by rfl) (by rfl) (fun _ => rfl) (zG (by conv => lhs; whnf) (by rfl) za2) (zT (by conv => lhs; whnf) (by rfl) (zT (by conv => lhs; whnf) (by rfl) zaS)) (zbV hC rfl) (by repeat (first | exact zad rfl | refine zan rfl ?_ | refine zW rfl ?_)) (by repeat (first | exact zaD | exact zai rfl | refine zao rfl ?_ | refine zX rfl ?_)) ?_
 clear F2
 rintro ⟨fu, g3, g4⟩ ⟨hl5, F3, hn_g3⟩
 dsimp only at hl5 F3 hn_g3 ⊢
 obtain _ | fu := fu
 · rw [zbO] at F3; cases F3
 rw [zbO] at F3
 refine zb (zb (za ?_))
 refine s_mv ?_
 refine s_fa zfx ?_
 refine zu yA42 ?_
 refine zE yU42 ?_
 refine s_lt ?_
 refine zf (zd ?_)
 refine zm F3 ?_ ?_ <;> intro C6 F4
 refine zV 16 (fun B7 => ?_)
 refine zi (zd (zb (zk ?_)))
 refine zY yMix (by kernel_rfl) ?_
 refine s_fa zfx ?_
 refine zu yA42 ?_
 refine s_fa zfx ?_
 refine zu yA42 ?_
 refine s_mv ?_
 obtain ⟨v8, V8, F5⟩ := zc F4
 refine zN Hit.row V8 (Hit.row_eq _) yE42 ?_
 refine zaq yA48 yS48 ?_
 obtain ⟨v9, V9, F6⟩ := zc F5
 refine zv [] (ih_m_spec_l4CopyHit fu (by omega) _ _ V9) ?_
 refine s_bs Hit.row [v9] yP42 yR48 ?_
 obtain ⟨hk10, F7⟩ := zah F6
 refine zdT Hit.row (fun y => Hit.row_len y) hk10 yP42 ?_
 refine s_fa zfx ?_
 refine zgJ yS42 ?_
 refine zal (by kernel_rfl) ?_
 refine z5 (zd (za ?_))
 refine s_mv ?_
 refine zO (zaA C6 B7 hn_g3) ?_
 refine s_as ?_
 refine zf ?_
 exact s_rn (fu, (g3 + 1), (g4 ++ [v9])) ⟨by first | omega | (dsimp only; omega), F7, by first | omega | (dsimp only; omega)⟩ [(5020, 30)]
 refine zz (zq (zp (zr (zd (zb (za ?_))))))
 refine zK yA48 yS48 ?_
 refine zac yS48 ?_
 refine zf (zd (zh (zn ?_)))
 cases F4
 exact zI [] [2007, 12007, 2012, 12012, 5020] (by rw [Tryz.results158]; exact (z8 (by conv => lhs; whnf) (by conv => lhs; whnf) yA48 yS48 rfl zR))
end Go.Abs
