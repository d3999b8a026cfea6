/- A part of the proof: what the functions that the law calls answer, as pure values. -/
import Derived.Test.YtcllpfmjggkpnaaGreatK61ef258a925a
import Derived.Test.YtcllpfmjggkpnaaGreatK4aa3857b4dbb
import Derived.Test.YtcllpfmjggkpnaaGreatKa15390ddf9b4
import Derived.Test.YtcllpfmjggkpnaaGreatK887eea50e27a
import Derived.Test.YtcllpfmjggkpnaaGreatK50fa35a3b9d2
import Derived.Test.YtcllpfmjggkpnaaGreatK98a493ba4651
import Derived.Test.YtcllpfmjggkpnaaGreatK2128be1e8112
set_option linter.unusedSimpArgs false
set_option linter.unusedVariables false
set_option maxRecDepth 100000
set_option maxHeartbeats 4000000
namespace Go.Abs
open Go.Proofs
def ze2 (fuel : Nat) : Prop := ∀ (x1 : (List Bind)) (x2 : (List Form)) (x3 : (List Form)) (x4 : (List Form)) (r : ((List Hit) × Bool)), zeE fuel x1 x2 x3 x4 = some r → AC Tryz.prog 75 [.t (.sl (x1.map Bind.row)), .t (.sl (x2.map Form.row)), .t (.sl (x3.map Form.row)), .t (.sl (x4.map Form.row))] noOb (.tp [.t (.sl (r.1.map Hit.row)), .t (.sc (.bool r.2))]) noOb
def zdq (fuel : Nat) : Prop := ∀ (x1 : (List Bind)) (x2 : Form) (x3 : (List Form)) (x4 : Form) (r : ((List Hit) × Bool)), zcl fuel x1 x2 x3 x4 = some r → AC Tryz.prog 25 [.t (.sl (x1.map Bind.row)), .ag [.t (.sc (.int .i64 x2.kind)), .t (.sc (.str x2.name)), .t (.sc (.int .i64 x2.n)), .t (.sl (x2.scopes.map rI)), .t (.sl (x2.kids.map Form.row))], .t (.sl (x3.map Form.row)), .ag [.t (.sc (.int .i64 x4.kind)), .t (.sc (.str x4.name)), .t (.sc (.int .i64 x4.n)), .t (.sl (x4.scopes.map rI)), .t (.sl (x4.kids.map Form.row))]] noOb (.tp [.t (.sl (r.1.map Hit.row)), .t (.sc (.bool r.2))]) noOb
theorem m_spec_l4List_st (fu : Nat) (ih_m_spec_l4List : ∀ k, k ≤ fu → ze2 k) (ih_m_spec_l4Match : ∀ k, k ≤ fu → zdq k) : ze2 (fu + 1) := by
 intro x1 x2 x3 x4 r F0
 rw [zeE] at F0
 refine AC_i [.t (.sl (r.1.map Hit.row)), .t (.sc (.bool r.2))] Tryz.func75 rfl Tryz.ntmps75 ?_
 intro C hC
 refine zb (za ?_)
 refine s_as ?_
 refine s_as ?_
 refine zf (zd (zb (za ?_)))
 refine s_bs Hit.row ([] : List Hit) yP30 yR38 ?_
 refine s_as ?_
 refine zf (zd (zb (za ?_)))
 refine s_as ?_
 refine zf (zd ?_)
 refine zbY (α := Nat × Int) [11, 12, 22, 23, 24, 25, 26, 27, 28, 29, 30, 31, 32, 33, 34, 35] [] [] (fun a => [(11, .t (.sc (.int .i64 a.2)))]) (fun a => []) (fun a => a.1 ≤ fu ∧ zc6 a.1 x1 x2 x3 x4 a.2 = some r) ?_ ?_
 refine zb (za ?_)
 refine s_as ?_
 refine zf (zd (zl ?_))
 refine zbu (β := Int × Int) [11, 12, 22, 23, 24, 25, 26, 27, 28, 29, 30, 31, 32, 33, 34, 35] [] [] (fun a => [(11, .t (.sc (.int .i64 a.2.1))), (12, .t (.sc (.int .i64 a.2.2)))]) (fun a => []) (fun a => a.1 ≤ fu ∧ za6 a.1 x1 x2 x3 x4 a.2.1 a.2.2 = some r) (fu, (-1), 0) ⟨Nat.le_refl _, F0⟩ ?_
 clear F0
 rintro ⟨fu, g1, g2⟩ ⟨hl3, F1⟩
 dsimp only at hl3 F1 ⊢
 obtain _ | fu := fu
 · rw [za6] at F1; cases F1
 rw [za6] at F1
 refine zb (zb (za ?_))
 refine s_mv ?_
 refine zQ rfl ?_
 refine s_mv ?_
 refine zD yU25 ?_
 refine s_lt ?_
 refine zf (zd ?_)
 refine zo F1 ?_ ?_ <;> intro C4 F2
 refine zi (zd (zb (zl (zb (za ?_)))))
 refine s_mv ?_
 refine s_mv ?_
 refine zQ rfl ?_
 obtain ⟨v5, V5, F3⟩ := zc F2
 refine z7 Form.row V5 (Form.row_eq _) yE25 ?_
 refine za1 yA27 yS27 ?_
 obtain ⟨v6, V6, F4⟩ := zc F3
 refine zx [] (zcE fu _ _ V6) ?_
 refine zf (zd ?_)
 refine zo F4 ?_ ?_ <;> intro C7 F5
 refine za ?_
 refine s_mv ?_
 refine s_as ?_
 refine zf (zX (zd (za ?_)))
 refine s_mv ?_
 refine zQ rfl ?_
 refine s_as ?_
 refine zf ?_
 exact s_rn (fu, g2, (w64 (g2 + 1))) ⟨by first | omega | (dsimp only; omega), F5⟩
 refine zi (zX (zd (za ?_)))
 refine s_mv ?_
 refine zQ rfl ?_
 refine s_as ?_
 refine zf ?_
 exact s_rn (fu, g1, (w64 (g2 + 1))) ⟨by first | omega | (dsimp only; omega), F5⟩
 refine zC (zr (zq (zu ?_)))
 exact s_jn (fu, g1) ⟨by first | omega | (dsimp only; omega), F2⟩
 clear F0
 rintro ⟨fu, g8⟩ ⟨hl9, F1⟩
 dsimp only at hl9 F1 ⊢
 obtain _ | fu := fu
 · rw [zc6] at F1; cases F1
 rw [zc6] at F1
 refine zbY (α := Nat) [8, 9, 36, 37, 38, 39, 40, 41, 42, 43, 44, 45, 46, 47, 48, 49, 50, 51, 52, 53, 54, 55, 56, 57] [] [] (fun a => []) (fun a => []) (fun a => a ≤ fu ∧ zbI a x1 x2 x3 x4 g8  = some r) ?_ ?_
 refine zb (za ?_)
 refine s_mv ?_
 refine s_lt ?_
 refine s_mv ?_
 refine zp _ 38 F1 ?_ ?_ <;> intro C10 F2
 refine s_mv ?_
 refine zD yU25 ?_
 refine s_mv ?_
 refine zD yU25 ?_
 refine s_ne ?_
 refine zz ?_
 refine s_mv ?_
 refine zp _ 45 F2 ?_ ?_ <;> intro C11 F3
 iterate 10 refine r_no rfl ?_
 refine zz ?_
 refine zf (zd (zM rfl (zb (za ?_))))
 refine s_mv ?_
 refine s_as ?_
 refine s_as ?_
 refine zf (zd (zh (zfa (zm ?_))))
 cases F3
 exact zk [] [21] Tryz.results75
 refine s_mv ?_
 refine s_ge ?_
 refine s_mv ?_
 refine zp _ 48 F3 ?_ ?_ <;> intro C12 F4
 refine s_mv ?_
 refine zD yU25 ?_
 refine s_mv ?_
 refine zD yU25 ?_
 refine zgS rfl ?_
 refine s_lt ?_
 refine zz ?_
 refine zy ?_
 refine zf (zd ?_)
 refine zo F4 ?_ ?_ <;> intro C13 F5
 refine zb (za ?_)
 refine s_mv ?_
 refine s_as ?_
 refine s_as ?_
 refine zf (zd (zh (zfa (zm ?_))))
 cases F5
 exact zk [] [21] Tryz.results75
 refine zi ?_
 exact s_jn (fu) ⟨by first | omega | (dsimp only; omega), F5⟩
 iterate 6 refine r_no rfl ?_
 refine zy ?_
 refine zy ?_
 refine zf (zd (zbn rfl (zi ?_)))
 exact s_jn (fu) ⟨by first | omega | (dsimp only; omega), F4⟩
 iterate 5 refine r_no rfl ?_
 refine zy ?_
 refine s_mv ?_
 refine s_mv ?_
 refine s_ge ?_
 refine s_mv ?_
 refine zp _ 48 F2 ?_ ?_ <;> intro C14 F3
 refine s_mv ?_
 refine zD yU25 ?_
 refine s_mv ?_
 refine zD yU25 ?_
 refine zgS rfl ?_
 refine s_lt ?_
 refine zz ?_
 refine zy ?_
 refine zf (zd ?_)
 refine zo F3 ?_ ?_ <;> intro C15 F4
 refine zb (za ?_)
 refine s_mv ?_
 refine s_as ?_
 refine s_as ?_
 refine zf (zd (zh (zfa (zm ?_))))
 cases F4
 exact zk [] [21] Tryz.results75
 refine zi ?_
 exact s_jn (fu) ⟨by first | omega | (dsimp only; omega), F4⟩
 iterate 6 refine r_no rfl ?_
 refine zy ?_
 refine zy ?_
 refine zf (zd (zbn rfl (zi ?_)))
 exact s_jn (fu) ⟨by first | omega | (dsimp only; omega), F3⟩
 clear F1
 rintro fu ⟨hl16, F2⟩
 obtain _ | fu := fu
 · rw [zbI] at F2; cases F2
 rw [zbI] at F2
 refine zb (za ?_)
 refine s_as ?_
 refine zf (zd (zb (zb (za ?_))))
 refine s_as ?_
 refine zf (zd (zl ?_))
 refine zcy 10 21 5080 (by conv => lhs; whnf) (by conv => lhs; whnf) rfl ?_
 refine zax [8, 9, 10, 13, 14, 15, 16, 17, 18, 19, 20, 58, 59, 60, 61, 62, 63, 64, 65, 66, 67, 68, 69, 70, 71, 72, 73, 74, 75, 76, 77, 78, 79, 80, 81, 82, 83, 84, 85, 86, 87, 88, 89, 90, 91, 92, 93, 94, 95, 96, 97, 98, 99, 100, 101, 102, 103, 104, 105, 106, 107, 108, 109, 110, 111, 112, 113, 114, 115, 116, 117, 118, 119, 120, 121, 122, 123, 124, 125, 126, 127, 128, 129, 130, 131, 132, 133, 134, 135, 136] [5080] [91, 94, 136, 5120] [5080] (fun a : Nat × Int × (List Hit) × Int => a.1) (fun a : Nat × Int × (List Hit) × Int => [(10, .ar 5080), (13, .t (.sc (.int .i64 a.2.2.2))), (14, .t (.sc (.int .i64 a.2.1)))]) (fun a : Nat × Int × (List Hit) × Int => [(5080, .arr (a.2.2.1.map Hit.row) 38 true)]) (fun a : Nat × Int × (List Hit) × Int => a.1 ≤ fu ∧ zbr a.1 x1 x2 x3 x4 g8 a.2.1 a.2.2.1 a.2.2.2 = some r ∧ 0 ≤ a.2.1) (fu, 0, ([] : List Hit), 0) ⟨Nat.le_refl _, F2, by simp⟩ (by rfl) (by rfl) (fun _ => rfl) (zL (by conv => lhs; whnf) (by rfl) (zL (by conv => lhs; whnf) (by rfl) (zL (by conv => lhs; whnf) (by rfl) zbx))) (zP (by conv => lhs; whnf) (by rfl) zbm) (zcx hC rfl) (by repeat (first | exact zak rfl | refine zaG rfl ?_ | refine zZ rfl ?_)) (by repeat (first | exact za3 | exact zas rfl | refine zaH rfl ?_ | refine z6 rfl ?_)) ?_
 clear F2
 rintro ⟨fu, g17, g18, g19⟩ ⟨hl20, F3, hn_g17⟩
 dsimp only at hl20 F3 hn_g17 ⊢
 obtain _ | fu := fu
 · rw [zbr] at F3; cases F3
 rw [zbr] at F3
 refine zb (zb (za ?_))
 refine s_mv ?_
 refine s_mv ?_
 refine zD yU25 ?_
 refine s_lt ?_
 refine zf (zd ?_)
 refine zo F3 ?_ ?_ <;> intro C21 F4
 refine zT 1 (fun B22 => ?_)
 refine zi (zd (zb (zl (zb (zb (za ?_))))))
 refine s_mv ?_
 refine s_mv ?_
 obtain ⟨v23, V23, F5⟩ := zc F4
 refine z7 Form.row V23 (Form.row_eq _) yE25 ?_
 refine za1 yA27 yS27 ?_
 obtain ⟨v24, V24, F6⟩ := zc F5
 refine zx [] (zcE fu _ _ V24) ?_
 refine zf (zd ?_)
 refine zo F6 ?_ ?_ <;> intro C25 F7
 refine zC (zr (zu (zd (za ?_))))
 refine s_mv ?_
 refine zQ (zbg C21 B22 hn_g17) ?_
 refine s_as ?_
 refine zf ?_
 exact s_rn (fu, (g17 + 1), g18, g19) ⟨by first | omega | (dsimp only; omega), F7, by first | omega | (dsimp only; omega)⟩
 refine zi (zd (zb (zb (za ?_))))
 refine s_mv ?_
 refine s_mv ?_
 refine s_ne ?_
 refine zf (zd ?_)
 refine zo F7 ?_ ?_ <;> intro C26 F8
 refine zb ?_
 refine zW yMix (by kernel_rfl) ?_
 iterate 3 refine s_mv ?_
 obtain ⟨v27, V27, F9⟩ := zc F8
 refine z7 Form.row V27 (Form.row_eq _) yE25 ?_
 refine za1 yA27 yS27 ?_
 iterate 3 refine s_mv ?_
 obtain ⟨v28, V28, F10⟩ := zc F9
 refine z7 Form.row V28 (Form.row_eq _) yE25 ?_
 refine za1 yA27 yS27 ?_
 obtain ⟨v29, V29, F11⟩ := zc F10
 refine zx [] (ih_m_spec_l4Match fu (by omega) _ _ _ _ _ V29) ?_
 refine s_mv ?_
 refine zbP ?_
 refine zbP ?_
 refine s_as ?_
 refine s_as ?_
 refine zaA (by kernel_rfl) ?_
 refine zd (zb (zb (za ?_)))
 refine s_mv ?_
 refine zby ?_
 refine zf (zd ?_)
 refine zo F11 ?_ ?_ <;> intro C30 F12
 refine zb (za ?_)
 refine s_mv ?_
 refine s_as ?_
 refine s_as ?_
 refine zf (zd (zh (zg (zg (zj (zg (zw (zj (zg (zm ?_))))))))))
 cases F12
 exact zk [] [5080] Tryz.results75
 refine zi (zd (zb (za ?_)))
 refine s_mv ?_
 refine s_mv ?_
 obtain ⟨hk31, F13⟩ := zai F12
 refine zfo Hit.row (fun y => Hit.row_len y) hk31 yP30 ?_
 refine s_as ?_
 refine zf (zd (zb (za ?_)))
 refine s_mv ?_
 refine zQ rfl ?_
 refine s_as ?_
 refine zf (zd (zC (zr (zu (zd (za ?_))))))
 refine s_mv ?_
 refine zQ (zbg C21 B22 hn_g17) ?_
 refine s_as ?_
 refine zf ?_
 exact s_rn (fu, (g17 + 1), (g18 ++ v29.1), (w64 (g19 + 1))) ⟨by first | omega | (dsimp only; omega), F13, by first | omega | (dsimp only; omega)⟩ [(5080, 91)]
 refine zi (zd (zb (za ?_)))
 refine s_bs (rL Hit.row) ([] : List (List Hit)) yP130 yR30 ?_
 refine s_as ?_
 refine zf (zd ?_)
 refine zbY (α := Nat × Int × (List (List Hit))) [8, 9, 13, 17, 18, 19, 20, 95, 96, 97, 98, 99, 100, 101, 102, 103, 104, 105, 106, 107, 108, 109, 110, 111, 112, 113, 114, 115, 116, 117, 118, 119, 120, 121, 122, 123, 124, 125, 126, 127] [94, 5120] [] (fun a => [(13, .t (.sc (.int .i64 a.2.1))), (17, .ar 5120)]) (fun a => [(94, .dead), (5120, .arr (a.2.2.map (rL Hit.row)) 30 true)]) (fun a => a.1 ≤ fu ∧ zc5 a.1 x1 x2 x3 x4 g8 g17 g18 a.2.1 a.2.2 = some r) ?_ ?_
 refine zb (za ?_)
 refine s_mv ?_
 refine zD yU25 ?_
 refine s_mv ?_
 refine zD yU25 ?_
 refine zgS rfl ?_
 refine zgS rfl ?_
 refine s_as ?_
 refine zf (zd (zl ?_))
 refine zcy 17 94 5120 (by conv => lhs; whnf) (by conv => lhs; whnf) rfl ?_
 refine zax [8, 9, 13, 17, 18, 19, 20, 101, 102, 103, 104, 105, 106, 107, 108, 109, 110, 111, 112, 113, 114, 115, 116, 117, 118, 119, 120, 121, 122, 123, 124, 125, 126, 127] [5120] [124, 125] [5120] (fun a : Nat × Int × (List (List Hit)) × Int => a.1) (fun a : Nat × Int × (List (List Hit)) × Int => [(13, .t (.sc (.int .i64 a.2.1))), (17, .ar 5120), (18, .t (.sc (.int .i64 a.2.2.2)))]) (fun a : Nat × Int × (List (List Hit)) × Int => [(5120, .arr (a.2.2.1.map (rL Hit.row)) 30 true)]) (fun a : Nat × Int × (List (List Hit)) × Int => a.1 ≤ fu ∧ zb0 a.1 x1 x2 x3 x4 g8 g17 g18 a.2.1 a.2.2.1 a.2.2.2 = some r) (fu, g19, ([] : List (List Hit)), (w64 ((x4.length : Int) - (w64 ((x2.length : Int) - 2))))) ⟨Nat.le_refl _, F8⟩ (by rfl) (by rfl) (fun _ => rfl) (zL (by conv => lhs; whnf) (by rfl) (zL (by conv => lhs; whnf) (by rfl) (zL (by conv => lhs; whnf) (by rfl) zbx))) (zP (by conv => lhs; whnf) (by rfl) zbm) (zcx hC rfl) (by repeat (first | exact zak rfl | refine zaG rfl ?_ | refine zZ rfl ?_)) (by repeat (first | exact za3 | exact zas rfl | refine zaH rfl ?_ | refine z6 rfl ?_)) ?_
 clear F8
 rintro ⟨fu, g32, g33, g34⟩ ⟨hl35, F9⟩
 dsimp only at hl35 F9 ⊢
 obtain _ | fu := fu
 · rw [zb0] at F9; cases F9
 rw [zb0] at F9
 refine zb (zb (za ?_))
 refine s_mv ?_
 refine s_gt ?_
 refine zf (zd ?_)
 refine zo F9 ?_ ?_ <;> intro C36 F10
 refine zi (zd (zb (zl (zb ?_))))
 refine zW yMix (by kernel_rfl) ?_
 iterate 3 refine s_mv ?_
 obtain ⟨v37, V37, F11⟩ := zc F10
 refine z7 Form.row V37 (Form.row_eq _) yE25 ?_
 refine za1 yA27 yS27 ?_
 iterate 3 refine s_mv ?_
 obtain ⟨v38, V38, F12⟩ := zc F11
 refine z7 Form.row V38 (Form.row_eq _) yE25 ?_
 refine za1 yA27 yS27 ?_
 obtain ⟨v39, V39, F13⟩ := zc F12
 refine zx [] (ih_m_spec_l4Match fu (by omega) _ _ _ _ _ V39) ?_
 refine s_mv ?_
 refine zbP ?_
 refine zbP ?_
 refine s_as ?_
 refine s_as ?_
 refine zaA (by kernel_rfl) ?_
 refine zd (zb (zb (za ?_)))
 refine s_mv ?_
 refine zby ?_
 refine zf (zd ?_)
 refine zo F13 ?_ ?_ <;> intro C40 F14
 refine zb (za ?_)
 refine s_mv ?_
 refine s_as ?_
 refine s_as ?_
 refine zf (zd (zh (zg (zj (zg (zw (zj (zfa (zj (zg (zw (zj (zg (zm ?_))))))))))))))
 cases F14
 exact zk [] [5080] Tryz.results75
 refine zi (zd (zb (za ?_)))
 refine s_mv ?_
 refine s_mv ?_
 refine s_bs (rL Hit.row) [v39.1] yP130 yR30 ?_
 obtain ⟨hk41, F15⟩ := zai F14
 refine zfo (rL Hit.row) (fun _ => rfl) hk41 yP130 ?_
 refine s_as ?_
 refine zf (zd (za ?_))
 refine s_mv ?_
 refine zQ rfl ?_
 refine s_as ?_
 refine zf (zX (zd (za ?_)))
 refine s_mv ?_
 refine zgS rfl ?_
 refine s_as ?_
 refine zf ?_
 exact s_rn (fu, (w64 (g32 + 1)), (g33 ++ [v39.1]), (w64 (g34 - 1))) ⟨by first | omega | (dsimp only; omega), F15⟩ [(5120, 125)]
 refine zC (zr (zq (zu ?_)))
 exact s_jn (fu, g32, g33) ⟨by first | omega | (dsimp only; omega), F10⟩
 clear F8
 rintro ⟨fu, g42, g43⟩ ⟨hl44, F9⟩
 dsimp only at hl44 F9 ⊢
 obtain _ | fu := fu
 · rw [zc5] at F9; cases F9
 rw [zc5] at F9
 refine za ?_
 iterate 3 refine s_mv ?_
 obtain ⟨v45, V45, F10⟩ := zc F9
 refine z7 Form.row V45 (Form.row_eq _) yE25 ?_
 refine za1 yA27 yS27 ?_
 refine s_mv ?_
 refine s_mv ?_
 obtain ⟨v46, V46, F11⟩ := zc F10
 refine zx [5120] (m_spec_l4Row_ok fu _ _ _ _ V46) ?_
 obtain ⟨hk47, F12⟩ := zai F11
 refine zfo Hit.row (fun y => Hit.row_len y) hk47 yP30 ?_
 refine s_as ?_
 refine zf (zX (zd (za ?_)))
 refine s_mv ?_
 refine zQ (zbg C21 B22 hn_g17) ?_
 refine s_as ?_
 refine zf ?_
 exact s_rn (fu, (g17 + 1), (g18 ++ v46), g42) ⟨by first | omega | (dsimp only; omega), F12, by first | omega | (dsimp only; omega)⟩ [(5080, 136)]
 refine zC (zr (zq (zu (zd (zb (za ?_))))))
 refine s_mv ?_
 refine s_as ?_
 refine s_as ?_
 refine zf (zd (zh (zm ?_)))
 cases F4
 exact zk [] [5080] Tryz.results75
theorem m_spec_l4Match_st (fu : Nat) (ih_m_spec_l4List : ∀ k, k ≤ fu → ze2 k) (ih_m_spec_l4Match : ∀ k, k ≤ fu → zdq k) : zdq (fu + 1) := by
 intro x1 x2 x3 x4 r F0
 rw [zcl] at F0
 refine AC_i [.t (.sl (r.1.map Hit.row)), .t (.sc (.bool r.2))] Tryz.func25 rfl Tryz.ntmps25 ?_
 intro C hC
 refine zb (za ?_)
 refine zbz ?_
 refine zbz ?_
 refine s_as ?_
 refine s_as ?_
 refine zf (zd (zb (za ?_)))
 refine s_bs Hit.row ([] : List Hit) yP30 yR38 ?_
 refine s_as ?_
 refine zf (zd (zb (zb (za ?_))))
 refine s_fa zdF ?_
 refine zv yA3 ?_
 refine s_eq ?_
 refine zf (zd ?_)
 refine zo F0 ?_ ?_ <;> intro C1 F1
 refine zb (zb (za ?_))
 refine s_fa zbQ ?_
 refine zv yA9 ?_
 refine zf1 ?_
 refine zf (zd ?_)
 refine zo F1 ?_ ?_ <;> intro C2 F2
 refine zb (za ?_)
 refine s_mv ?_
 refine s_as ?_
 refine s_as ?_
 refine zf (zd (zh (zg (zg (zm ?_)))))
 cases F2
 exact zk [] [11] Tryz.results25
 refine zi (zd (zb (zb (za ?_))))
 refine s_mv ?_
 refine zI yA27 yS27 ?_
 obtain ⟨v3, V3, F3⟩ := zc F2
 refine zx [] (zfY fu _ _ _ V3) ?_
 refine zf (zd ?_)
 refine zo F3 ?_ ?_ <;> intro C4 F4
 refine zbY (α := Nat × Bool) [8, 9, 22, 23, 24, 25, 26, 27, 28, 29, 30, 31] [] [] (fun a => [(8, .ar 11), (9, .t (.sc (.bool a.2)))]) (fun a => []) (fun a => a.1 ≤ fu ∧ zca a.1  a.2 = some r) ?_ ?_
 refine za ?_
 refine s_mv ?_
 refine s_fa zdF ?_
 refine zv yA3 ?_
 refine s_eq ?_
 refine s_mv ?_
 refine zp _ 26 F4 ?_ ?_ <;> intro C5 F5
 refine s_mv ?_
 refine zI yA27 yS27 ?_
 refine zI yA27 yS27 ?_
 obtain ⟨v6, V6, F6⟩ := zc F5
 refine zx [] (m_spec_l3Same_ok fu _ _ _ _ V6) ?_
 refine zz ?_
 refine s_as ?_
 refine s_as ?_
 refine zf ?_
 exact s_jn (fu, v6) ⟨by first | omega | (dsimp only; omega), F6⟩
 iterate 4 refine r_no rfl ?_
 refine zy ?_
 refine s_as ?_
 refine s_as ?_
 refine zf ?_
 exact s_jn (fu, false) ⟨by first | omega | (dsimp only; omega), F5⟩
 clear F4
 rintro ⟨fu, g7⟩ ⟨hl8, F5⟩
 dsimp only at hl8 F5 ⊢
 obtain _ | fu := fu
 · rw [zca] at F5; cases F5
 rw [zca] at F5
 refine zh (zg (zg (zm ?_)))
 cases F5
 exact zk [] [11] Tryz.results25
 refine zi (zd (zb (za ?_)))
 refine s_mv ?_
 refine zI yA27 yS27 ?_
 refine zI yA27 yS27 ?_
 refine zgz yZ38 yL38 ?_
 refine s_bs Hit.row [(Hit.mk x2 0 x4 ([] : List Hit))] yP30 yR38 ?_
 obtain ⟨hk9, F5⟩ := zai F4
 refine zfo Hit.row (fun y => Hit.row_len y) hk9 yP30 ?_
 refine s_as ?_
 refine s_as ?_
 refine zf (zd (zh (zg (zm ?_))))
 cases F5
 exact zk [] [37] Tryz.results25
 refine zi (zd (zb (zb (za ?_))))
 refine s_fa zdF ?_
 refine zv yA3 ?_
 refine s_eq ?_
 refine zf (zd ?_)
 refine zo F1 ?_ ?_ <;> intro C10 F2
 refine zb (za ?_)
 refine s_mv ?_
 refine zI yA27 yS27 ?_
 refine zI yA27 yS27 ?_
 obtain ⟨v11, V11, F3⟩ := zc F2
 refine zx [] (zgJ fu _ _ _ V11) ?_
 refine s_as ?_
 refine s_as ?_
 refine zf (zd (zh (zg (zm ?_))))
 cases F3
 exact zk [] [11] Tryz.results25
 refine zi (zd (zb (zb (za ?_))))
 refine s_fa zdF ?_
 refine zv yA3 ?_
 refine s_ne ?_
 refine zf (zd ?_)
 refine zo F2 ?_ ?_ <;> intro C12 F3
 refine zb (za ?_)
 refine s_mv ?_
 refine s_as ?_
 refine s_as ?_
 refine zf (zd (zh (zg (zm ?_))))
 cases F3
 exact zk [] [11] Tryz.results25
 refine zi (zd (zb (za ?_)))
 refine s_mv ?_
 refine s_fa zR ?_
 refine zv yA25 ?_
 refine s_mv ?_
 refine s_fa zR ?_
 refine zv yA25 ?_
 obtain ⟨v13, V13, F4⟩ := zc F3
 refine zx [] (ih_m_spec_l4List fu (by omega) _ _ _ _ _ V13) ?_
 refine zbP ?_
 refine zbP ?_
 refine s_as ?_
 refine s_as ?_
 refine zf (zd (zh (zm ?_)))
 cases F4
 exact zk [] [] Tryz.results25
theorem m_spec_l4List_all (fuel : Nat) : ze2 fuel ∧ zdq fuel := by
 induction fuel using Nat.strongRecOn with
 | _ N ih =>
   cases N with
   | zero => exact ⟨(by intro x1 x2 x3 x4 r h; rw [zeE] at h; cases h), (by intro x1 x2 x3 x4 r h; rw [zcl] at h; cases h)⟩
   | succ fu => exact ⟨m_spec_l4List_st fu (fun k hk => (ih k (by omega)).1) (fun k hk => (ih k (by omega)).2), m_spec_l4Match_st fu (fun k hk => (ih k (by omega)).1) (fun k hk => (ih k (by omega)).2)⟩
theorem m_spec_l4Match_ok (fuel : Nat) : zdq fuel := (m_spec_l4List_all fuel).2
def zdI (fuel : Nat) : Prop := ∀ (x1 : Hit) (r : Hit), zbJ fuel x1 = some r → AC Tryz.prog 76 [.ag [.t (.sc (.int .i64 x1.name.kind)), .t (.sc (.str x1.name.name)), .t (.sc (.int .i64 x1.name.n)), .t (.sl (x1.name.scopes.map rI)), .t (.sl (x1.name.kids.map Form.row)), .t (.sc (.int .i64 x1.depth)), .t (.sc (.int .i64 x1.one.kind)), .t (.sc (.str x1.one.name)), .t (.sc (.int .i64 x1.one.n)), .t (.sl (x1.one.scopes.map rI)), .t (.sl (x1.one.kids.map Form.row)), .t (.sl (x1.many.map Hit.row))]] noOb (.ag [.t (.sc (.int .i64 r.name.kind)), .t (.sc (.str r.name.name)), .t (.sc (.int .i64 r.name.n)), .t (.sl (r.name.scopes.map rI)), .t (.sl (r.name.kids.map Form.row)), .t (.sc (.int .i64 r.depth)), .t (.sc (.int .i64 r.one.kind)), .t (.sc (.str r.one.name)), .t (.sc (.int .i64 r.one.n)), .t (.sl (r.one.scopes.map rI)), .t (.sl (r.one.kids.map Form.row)), .t (.sl (r.many.map Hit.row))]) noOb
theorem m_spec_l4CopyHit_st (fu : Nat) (ih_m_spec_l4CopyHit : ∀ k, k ≤ fu → zdI k) : zdI (fu + 1) := by
 intro x1 r F0
 rw [zbJ] at F0
 refine AC_i [.ag [.t (.sc (.int .i64 r.name.kind)), .t (.sc (.str r.name.name)), .t (.sc (.int .i64 r.name.n)), .t (.sl (r.name.scopes.map rI)), .t (.sl (r.name.kids.map Form.row)), .t (.sc (.int .i64 r.depth)), .t (.sc (.int .i64 r.one.kind)), .t (.sc (.str r.one.name)), .t (.sc (.int .i64 r.one.n)), .t (.sl (r.one.scopes.map rI)), .t (.sl (r.one.kids.map Form.row)), .t (.sl (r.many.map Hit.row))]] Tryz.func76 rfl Tryz.ntmps76 ?_
 intro C hC
 refine zb (za ?_)
 refine zbz ?_
 refine zY yZ38 ?_
 refine zf (zd (zb ?_))
 refine zW yMix (by kernel_rfl) ?_
 refine s_fa yF38_0 ?_
 refine za1 yA27 yS27 ?_
 obtain ⟨v1, V1, F1⟩ := zc F0
 refine zN [(9203, 2007), (9204, 12007)] [] _ _ (ze6 fu _ _ V1) ?_
 refine s_fa yF38_1 ?_
 refine zv yA3 ?_
 refine s_fa yF38_2 ?_
 refine za1 yA27 yS27 ?_
 obtain ⟨v2, V2, F2⟩ := zc F1
 refine zN [(9203, 2012), (9204, 12012)] [] _ _ (ze6 fu _ _ V2) ?_
 refine zgz yZ38 yL38 ?_
 refine zY yZ38 ?_
 refine zap yS38 ?_
 refine zaA (by kernel_rfl) ?_
 refine zd (zb (zb (za ?_)))
 refine s_as ?_
 refine zf (zd (zl ?_))
 refine awp_ownB 3 5020 38 [.t (.sc (.int .i64 v1.kind)), .t (.sc (.str v1.name)), .t (.sc (.int .i64 v1.n)), .ar 2007, .ar 12007, .t (.sc (.int .i64 x1.depth)), .t (.sc (.int .i64 v2.kind)), .t (.sc (.str v2.name)), .t (.sc (.int .i64 v2.n)), .ar 2012, .ar 12012, .ar 5020] yI38.choose_spec ?_
 refine zax [4, 14, 15, 16, 17, 18, 19, 20, 21, 22, 23, 24, 25, 26, 27, 28, 29, 30, 31] [3, 5020] [29, 30] [5020] (fun a : Nat × Int × (List Hit) => a.1) (fun a : Nat × Int × (List Hit) => [(4, .t (.sc (.int .i64 a.2.1)))]) (fun a : Nat × Int × (List Hit) => [(3, .box [.t (.sc (.int .i64 v1.kind)), .t (.sc (.str v1.name)), .t (.sc (.int .i64 v1.n)), .ar 2007, .ar 12007, .t (.sc (.int .i64 x1.depth)), .t (.sc (.int .i64 v2.kind)), .t (.sc (.str v2.name)), .t (.sc (.int .i64 v2.n)), .ar 2012, .ar 12012, .ar 5020]), (5020, .arr (a.2.2.map Hit.row) 38 true)]) (fun a : Nat × Int × (List Hit) => a.1 ≤ fu ∧ zbK a.1 x1 v1 v2 a.2.1 a.2.2 = some r ∧ 0 ≤ a.2.1) (fu, 0, ([] : List Hit)) ⟨Nat.le_refl _, F2, by simp⟩ (by rfl) (by rfl) (fun _ => rfl) (zL (by conv => lhs; whnf) (by rfl) zbx) (zP (by conv => lhs; whnf) (by rfl) (zP (by conv => lhs; whnf) (by rfl) zbm)) (zcx hC rfl) (by repeat (first | exact zak rfl | refine zaG rfl ?_ | refine zZ rfl ?_)) (by repeat (first | exact za3 | exact zas rfl | refine zaH rfl ?_ | refine z6 rfl ?_)) ?_
 clear F2
 rintro ⟨fu, g3, g4⟩ ⟨hl5, F3, hn_g3⟩
 dsimp only at hl5 F3 hn_g3 ⊢
 obtain _ | fu := fu
 · rw [zbK] at F3; cases F3
 rw [zbK] at F3
 refine zb (zb (za ?_))
 refine s_mv ?_
 refine s_fa zgo ?_
 refine zv yA30 ?_
 refine zD yU30 ?_
 refine s_lt ?_
 refine zf (zd ?_)
 refine zo F3 ?_ ?_ <;> intro C6 F4
 refine zT 16 (fun B7 => ?_)
 refine zi (zd (zb (zl ?_)))
 refine zW yMix (by kernel_rfl) ?_
 refine s_fa zgo ?_
 refine zv yA30 ?_
 refine s_fa zgo ?_
 refine zv yA30 ?_
 refine s_mv ?_
 obtain ⟨v8, V8, F5⟩ := zc F4
 refine z7 Hit.row V8 (Hit.row_eq _) yE30 ?_
 refine za1 yA38 yS38 ?_
 obtain ⟨v9, V9, F6⟩ := zc F5
 refine zx [] (ih_m_spec_l4CopyHit fu (by omega) _ _ V9) ?_
 refine s_bs Hit.row [v9] yP30 yR38 ?_
 obtain ⟨hk10, F7⟩ := zai F6
 refine zfo Hit.row (fun y => Hit.row_len y) hk10 yP30 ?_
 refine s_fa zgo ?_
 refine s_stP yS30 ?_
 refine zaA (by kernel_rfl) ?_
 refine zX (zd (za ?_))
 refine s_mv ?_
 refine zQ (zbg C6 B7 hn_g3) ?_
 refine s_as ?_
 refine zf ?_
 exact s_rn (fu, (g3 + 1), (g4 ++ [v9])) ⟨by first | omega | (dsimp only; omega), F7, by first | omega | (dsimp only; omega)⟩ [(5020, 30)]
 refine zC (zr (zq (zu (zd (zb (za ?_))))))
 refine zI yA38 yS38 ?_
 refine zap yS38 ?_
 refine zf (zd (zh (zm ?_)))
 cases F4
 exact zag [] [2007, 12007, 2012, 12012, 5020] (by rw [Tryz.results76]; exact (zal (by conv => lhs; whnf) (by conv => lhs; whnf) yA38 yS38 rfl zaq))
theorem m_spec_l4CopyHit_all (fuel : Nat) : zdI fuel := by
 induction fuel using Nat.strongRecOn with
 | _ N ih =>
   cases N with
   | zero => exact (by intro x1 r h; rw [zbJ] at h; cases h)
   | succ fu => exact m_spec_l4CopyHit_st fu (fun k hk => (ih k (by omega)))
theorem m_spec_l4CopyHit_ok (fuel : Nat) : zdI fuel := (m_spec_l4CopyHit_all fuel)
def m_spec_l4Copy_AC (fuel : Nat) : Prop := ∀ (x1 : (List Hit)) (r : (List Hit)), zfr fuel x1 = some r → AC Tryz.prog 26 [.t (.sl (x1.map Hit.row))] (objs []) (.ar 9200) (objs [(9200, .arr (r.map Hit.row) 38 true)])
theorem m_spec_l4Copy_ok (fuel : Nat) : m_spec_l4Copy_AC fuel := by
 intro x1 r F0
 unfold zfr at F0
 refine AC_i [.ar 9200] Tryz.func26 rfl Tryz.ntmps26 ?_
 intro C hC
 refine zb (za ?_)
 refine s_as ?_
 refine zf (zd (zb (za ?_)))
 refine s_bs Hit.row ([] : List Hit) yP30 yR38 ?_
 refine s_as ?_
 refine zf (zd (zb (zb (za ?_))))
 refine s_as ?_
 refine zf (zd (zl ?_))
 refine zcy 3 5 5020 (by conv => lhs; whnf) (by conv => lhs; whnf) rfl ?_
 refine zax [3, 4, 6, 7, 8, 9, 10, 11, 12, 13, 14, 15, 16, 17, 18, 19] [5020] [18, 19] [5020] (fun a : Nat × (List Hit) × Int => a.1) (fun a : Nat × (List Hit) × Int => [(3, .ar 5020), (4, .t (.sc (.int .i64 a.2.2)))]) (fun a : Nat × (List Hit) × Int => [(5020, .arr (a.2.1.map Hit.row) 38 true)]) (fun a : Nat × (List Hit) × Int => a.1 ≤ fuel ∧ zcF a.1 x1 a.2.1 a.2.2 = some r ∧ 0 ≤ a.2.2) (fuel, ([] : List Hit), 0) ⟨Nat.le_refl _, F0, by simp⟩ (by rfl) (by rfl) (fun _ => rfl) (zL (by conv => lhs; whnf) (by rfl) (zL (by conv => lhs; whnf) (by rfl) zbx)) (zP (by conv => lhs; whnf) (by rfl) zbm) (zcx hC rfl) (by repeat (first | exact zak rfl | refine zaG rfl ?_ | refine zZ rfl ?_)) (by repeat (first | exact za3 | exact zas rfl | refine zaH rfl ?_ | refine z6 rfl ?_)) ?_
 clear F0
 rintro ⟨fu, g1, g2⟩ ⟨hl3, F1, hn_g2⟩
 dsimp only at hl3 F1 hn_g2 ⊢
 obtain _ | fu := fu
 · rw [zcF] at F1; cases F1
 rw [zcF] at F1
 refine zb (zb (za ?_))
 refine s_mv ?_
 refine s_mv ?_
 refine zD yU30 ?_
 refine s_lt ?_
 refine zf (zd ?_)
 refine zo F1 ?_ ?_ <;> intro C4 F2
 refine zT 0 (fun B5 => ?_)
 refine zi (zd (zb (zl (za ?_))))
 iterate 3 refine s_mv ?_
 obtain ⟨v6, V6, F3⟩ := zc F2
 refine z7 Hit.row V6 (Hit.row_eq _) yE30 ?_
 refine za1 yA38 yS38 ?_
 obtain ⟨v7, V7, F4⟩ := zc F3
 refine zx [] (m_spec_l4CopyHit_ok fu _ _ V7) ?_
 refine s_bs Hit.row [v7] yP30 yR38 ?_
 obtain ⟨hk8, F5⟩ := zai F4
 refine zfo Hit.row (fun y => Hit.row_len y) hk8 yP30 ?_
 refine s_as ?_
 refine zf (zX (zd (za ?_)))
 refine s_mv ?_
 refine zQ (zbg C4 B5 hn_g2) ?_
 refine s_as ?_
 refine zf ?_
 exact s_rn (fu, (g1 ++ [v7]), (g2 + 1)) ⟨by first | omega | (dsimp only; omega), F5, by first | omega | (dsimp only; omega)⟩ [(5020, 19)]
 refine zC (zr (zq (zu (zd (zb (za ?_))))))
 refine s_mv ?_
 refine s_as ?_
 refine zf (zd ?_)
 refine zcy 2 5020 9200 (by conv => lhs; whnf) (by conv => lhs; whnf) rfl ?_
 refine zh (zm ?_)
 cases F2
 exact zk _ [] Tryz.results26
def m_spec_MatchPattern_AC (fuel : Nat) : Prop := ∀ (x1 : (List Bind)) (x2 : Form) (x3 : (List Form)) (x4 : Form) (r : ((List Hit) × Bool)), zcX fuel x1 x2 x3 x4 = some r → AC Tryz.prog 7 [.t (.sl (x1.map Bind.row)), .ag [.t (.sc (.int .i64 x2.kind)), .t (.sc (.str x2.name)), .t (.sc (.int .i64 x2.n)), .t (.sl (x2.scopes.map rI)), .t (.sl (x2.kids.map Form.row))], .t (.sl (x3.map Form.row)), .ag [.t (.sc (.int .i64 x4.kind)), .t (.sc (.str x4.name)), .t (.sc (.int .i64 x4.n)), .t (.sl (x4.scopes.map rI)), .t (.sl (x4.kids.map Form.row))]] (objs []) (.tp [.ar 9200, .t (.sc (.bool r.2))]) (objs [(9200, .arr (r.1.map Hit.row) 38 true)])
theorem m_spec_MatchPattern_ok (fuel : Nat) : m_spec_MatchPattern_AC fuel := by
 intro x1 x2 x3 x4 r F0
 unfold zcX at F0
 refine AC_i [.ar 9200, .t (.sc (.bool r.2))] Tryz.func7 rfl Tryz.ntmps7 ?_
 intro C hC
 refine zb (za ?_)
 refine zbz ?_
 refine zbz ?_
 refine s_as ?_
 refine s_as ?_
 refine zf (zd (zb ?_))
 refine zbY (α := Nat × Bool) [12, 13, 14, 15, 16, 17, 18, 19, 20, 21, 22, 23, 24, 25] [] [] (fun a => [(25, .t (.sc (.bool a.2)))]) (fun a => []) (fun a => a.1 ≤ fuel ∧ zaD a.1 x1 x2 x3 x4 a.2 = some r) ?_ ?_
 refine za ?_
 refine s_mv ?_
 obtain ⟨v1, V1, F1⟩ := zc F0
 refine zx [] (m_spec_BindsValid_ok fuel _ _ V1) ?_
 refine zby ?_
 refine s_mv ?_
 refine zp _ 15 F1 ?_ ?_ <;> intro C2 F2
 iterate 4 refine r_no rfl ?_
 refine zz ?_
 refine s_mv ?_
 iterate 3 refine r_no rfl ?_
 refine zz ?_
 refine zf ?_
 exact s_jn (fuel, true) ⟨by first | omega | (dsimp only; omega), F2⟩
 refine zI yA27 yS27 ?_
 refine s_mv ?_
 obtain ⟨v3, V3, F3⟩ := zc F2
 refine zx [] (m_spec_l4Is_ok fuel _ _ _ V3) ?_
 refine zby ?_
 refine zy ?_
 refine s_mv ?_
 refine zp _ 21 F3 ?_ ?_ <;> intro C4 F4
 iterate 3 refine r_no rfl ?_
 refine zz ?_
 refine zf ?_
 exact s_jn (fuel, true) ⟨by first | omega | (dsimp only; omega), F4⟩
 refine zI yA27 yS27 ?_
 obtain ⟨v5, V5, F5⟩ := zc F4
 refine zx [] (zdJ fuel _ _ V5) ?_
 refine zby ?_
 refine zy ?_
 refine zf ?_
 exact s_jn (fuel, (!v5)) ⟨by first | omega | (dsimp only; omega), F5⟩
 clear F0
 rintro ⟨fu, g6⟩ ⟨hl7, F1⟩
 dsimp only at hl7 F1 ⊢
 obtain _ | fu := fu
 · rw [zaD] at F1; cases F1
 rw [zaD] at F1
 refine zo F1 ?_ ?_ <;> intro C8 F2
 refine zb (za ?_)
 refine s_bs Hit.row ([] : List Hit) yP30 yR38 ?_
 refine s_as ?_
 refine s_as ?_
 refine zf (zd ?_)
 refine zcy 8 26 9200 (by conv => lhs; whnf) (by conv => lhs; whnf) rfl ?_
 refine zh (zg (zm ?_))
 cases F2
 exact zk _ [] Tryz.results7
 refine zi (zd (zb (za ?_)))
 refine s_mv ?_
 refine zI yA27 yS27 ?_
 refine s_mv ?_
 refine zI yA27 yS27 ?_
 obtain ⟨v9, V9, F3⟩ := zc F2
 refine zx [] (m_spec_l4Match_ok fu _ _ _ _ _ V9) ?_
 refine s_mv ?_
 refine zbP ?_
 refine zbP ?_
 refine s_as ?_
 refine s_as ?_
 refine zf (zd (zb (zb (za ?_))))
 refine s_mv ?_
 refine zby ?_
 refine zf (zd ?_)
 refine zo F3 ?_ ?_ <;> intro C10 F4
 refine zb (za ?_)
 refine s_bs Hit.row ([] : List Hit) yP30 yR38 ?_
 refine s_as ?_
 refine s_as ?_
 refine zf (zd ?_)
 refine zcy 8 37 9200 (by conv => lhs; whnf) (by conv => lhs; whnf) rfl ?_
 refine zh (zg (zm ?_))
 cases F4
 exact zk _ [] Tryz.results7
 refine zi (zd (zb (za ?_)))
 refine s_mv ?_
 obtain ⟨v11, V11, F5⟩ := zc F4
 refine zN [(9200, 2039)] [] _ _ (m_spec_l4Copy_ok fu _ _ V11) ?_
 refine s_as ?_
 refine s_as ?_
 refine zf (zd ?_)
 refine zcy 8 2039 9200 (by conv => lhs; whnf) (by conv => lhs; whnf) rfl ?_
 refine zh (zm ?_)
 cases F5
 exact zk _ [] Tryz.results7
def zgj (fuel : Nat) : Prop := ∀ (x1 : (List Int)) (x2 : Int) (r : Int × Bool), zdm fuel x1 x2 = some r → AC Tryz.prog 78 [.ar 9300, .t (.sc (.int .i64 x2))] (objs [(9300, .arr (x1.map rI) 3 true)]) (.tp [.t (.sc (.int .i64 r.1)), .t (.sc (.bool r.2))]) (objs [(9300, .arr (x1.map rI) 3 true)])
theorem zgi (fuel : Nat) : zgj fuel := by
 intro x1 x2 r h
 obtain ⟨h0, h⟩ := zai h
 obtain ⟨h1, h⟩ := zai h
 obtain rfl := Option.some.inj h
 exact ac_search x1 x2 ⟨_, Tryz.func78, by kernel_rfl, by kernel_rfl⟩ (by kernel_rfl) (fun b c w hc => Tryz.slices_BinarySearch_int b 0 x1.length c x1 x2 w (Nat.le_refl _) (by simpa using h0) hc (by simpa using h1)) (fun A c w => Tryz.slices_BinarySearch_int_empty A c x2 w)
def m_slices_Insert_int_AC (fuel : Nat) : Prop := ∀ (x1 : (List Int)) (x2 : Int) (x3 : (List Int)) (r : (List Int)), zff fuel x1 x2 x3 = some r → AC Tryz.prog 79 [.ar 9300, .t (.sc (.int .i64 x2)), .ar 9302] (objs [(9300, .arr (x1.map rI) 3 true), (9302, .arr (x3.map rI) 3 true)]) (.ar 9200) (objs [(9300, .dead), (9302, .arr (x3.map rI) 3 true), (9200, .arr (r.map rI) 3 true)])
theorem m_slices_Insert_int_ok (fuel : Nat) : m_slices_Insert_int_AC fuel := by
 intro x1 x2 x3 r h
 obtain ⟨h0, h⟩ := zai h
 obtain ⟨h1, h⟩ := zai h
 obtain ⟨h2, h⟩ := zai h
 obtain ⟨h3, h⟩ := zai h
 obtain rfl := Option.some.inj h
 simp only [decide_eq_true_eq] at h0 h1 h2 h3
 obtain ⟨i, rfl⟩ := Int.eq_ofNat_of_zero_le h0
 obtain ⟨v, rfl⟩ := List.length_eq_one_iff.1 h3
 have hi : i ≤ x1.length := Int.ofNat_le.1 h1
 have := ac_insert (P := Tryz.prog) (f := 79) (e := 3) x1 i v hi ⟨_, Tryz.func79, by kernel_rfl, by kernel_rfl⟩ (by kernel_rfl) h2
   (fun b n c i vb vc cs vs w => fun a1 a2 a3 a4 a5 a6 a7 a8 a9 a10 a11 a12 tA tB kA kB a13 a14 a15 a16 a17 => Any2.slices_Insert_int_shift Tryz.laysNm221 b 0 n c i vb 0 1 vc cs vs w a1 (by decide) a2 a3 a4 a5 a6 a7 a8 a9 a10 a11 a12 tA tB kA kB a13 a14 a15 a16 a17)
   (fun b n c vb vc vs w a1 a2 a3 a4 a5 a6 a7 => Any2.slices_Insert_int_end_room Tryz.laysNm221 b 0 n c vb 0 1 vc vs w (by decide) a1 a2 a3 a4 a5 a6 a7)
   (fun base n c vb vc cs vs w a1 a2 a3 a4 a5 a6 a7 a8 a9 => Any2.slices_Insert_int_end_grow Tryz.laysNm221 base n c vb 0 1 vc cs vs w (by decide) a1 a2 a3 a4 a5 a6 a7 a8 a9)
   (fun b n c i vb vc cs vs w a1 a2 a3 a4 a5 a6 a7 a8 a9 a10 => Any2.slices_Insert_int_grow Tryz.laysNm221 b 0 n c i vb 0 1 vc cs vs w a1 (by decide) a2 a3 a4 a5 a6 a7 a8 a9 a10)
 simpa using this
def m_impl_withScope_AC (fuel : Nat) : Prop := ∀ (x1 : (List Int)) (x2 : Int) (r : (List Int)), zea fuel x1 x2 = some r → AC Tryz.prog 29 [.ar 9300, .t (.sc (.int .i64 x2))] (objs [(9300, .arr (x1.map rI) 3 true)]) (.ar 9200) (objs [(9300, .dead), (9200, .arr (r.map rI) 3 true)])
theorem m_impl_withScope_ok (fuel : Nat) : m_impl_withScope_AC fuel := by
 intro x1 x2 r F0
 unfold zea at F0
 refine AC_i [.ar 9200] Tryz.func29 rfl Tryz.ntmps29 ?_
 intro C hC
 refine zb (za ?_)
 refine s_as ?_
 refine zf (zd (zb (za ?_)))
 refine s_mv ?_
 refine s_mv ?_
 obtain ⟨v1, V1, F1⟩ := zc F0
 refine zN [(9300, 9300)] [] _ _ (zgi fuel _ _ _ V1) ?_
 refine s_mv ?_
 refine zbP ?_
 refine zbP ?_
 refine s_as ?_
 refine s_as ?_
 refine zf (zd (zb (zb (za ?_))))
 refine s_mv ?_
 refine zf (zd ?_)
 refine zo F1 ?_ ?_ <;> intro C2 F2
 refine zb (za ?_)
 refine s_mv ?_
 refine s_as ?_
 refine zf (zd ?_)
 refine zcy 4 9300 9200 (by conv => lhs; whnf) (by conv => lhs; whnf) rfl ?_
 refine zh (zg (zm ?_))
 cases F2
 exact zk _ [] Tryz.results29
 refine zi (zd (zb (za ?_)))
 iterate 3 refine s_mv ?_
 refine s_bs rI [x2] yP24 yR3 ?_
 obtain ⟨v3, V3, F3⟩ := zc F2
 refine zN [(9300, 9300), (9302, 18), (9200, 22019)] [] _ _ (m_slices_Insert_int_ok fuel _ _ _ _ V3) ?_
 refine s_as ?_
 refine zf (zd ?_)
 refine zcy 4 22019 9200 (by conv => lhs; whnf) (by conv => lhs; whnf) rfl ?_
 refine zh (zm ?_)
 cases F3
 exact zk _ [] Tryz.results29
def m_impl_AddScope_1_AC (fuel : Nat) : Prop := ∀ (x1 : (List Int)) (o1 : Int) (r : (List Int)), zeO fuel x1 o1 = some r → AC Tryz.prog 28 [.ar 9300, .rf 9000 0] (objs [(9300, .arr (x1.map rI) 3 true), (9000, .box [.t (.sc (.int .i64 o1))])]) (.t (.sl (r.map rI))) (objs [(9300, .dead), (9000, .box [.t (.sc (.int .i64 o1))])])
theorem m_impl_AddScope_1_ok (fuel : Nat) : m_impl_AddScope_1_AC fuel := by
 intro x1 o1 r F0
 unfold zeO at F0
 refine AC_i [.t (.sl (r.map rI))] Tryz.func28 rfl Tryz.ntmps28 ?_
 intro C hC
 refine zb (za ?_)
 refine s_as ?_
 refine zf (zd (zb (za ?_)))
 refine s_mv ?_
 refine zv yA3 ?_
 obtain ⟨v1, V1, F1⟩ := zc F0
 refine zN [(9300, 9300), (9200, 12006)] [] _ _ (m_impl_withScope_ok fuel _ _ _ V1) ?_
 refine s_as ?_
 refine zf (zd (zh (zm ?_)))
 cases F1
 exact zk _ [12006] Tryz.results28
def zbO (fuel : Nat) : Prop := ∀ (x1 : Form) (o1 : Int) (r : Form), zaw fuel x1 o1 = some r → AC Tryz.prog 77 [.ag [.t (.sc (.int .i64 x1.kind)), .t (.sc (.str x1.name)), .t (.sc (.int .i64 x1.n)), .t (.sl (x1.scopes.map rI)), .t (.sl (x1.kids.map Form.row))], .fn 28 [.rf 9000 0]] (objs [(9000, .box [.t (.sc (.int .i64 o1))])]) (.ag [.t (.sc (.int .i64 r.kind)), .t (.sc (.str r.name)), .t (.sc (.int .i64 r.n)), .t (.sl (r.scopes.map rI)), .t (.sl (r.kids.map Form.row))]) (objs [(9000, .box [.t (.sc (.int .i64 o1))])])
theorem zgl (fu : Nat) (ih_m_impl_dressed_AddScope_1 : ∀ k, k ≤ fu → zbO k) : zbO (fu + 1) := by
 intro x1 o1 r F0
 rw [zaw] at F0
 refine AC_i [.ag [.t (.sc (.int .i64 r.kind)), .t (.sc (.str r.name)), .t (.sc (.int .i64 r.n)), .t (.sl (r.scopes.map rI)), .t (.sl (r.kids.map Form.row))]] Tryz.func77 rfl Tryz.ntmps77 ?_
 intro C hC
 refine zb (za ?_)
 refine zbz ?_
 refine zY yZ27 ?_
 refine zf (zd (zb (za ?_)))
 refine s_fa zdF ?_
 refine zv yA3 ?_
 refine s_fa zbQ ?_
 refine zv yA9 ?_
 refine s_fa zgf ?_
 refine zv yA3 ?_
 refine zgz yZ27 yL27 ?_
 refine zY yZ27 ?_
 refine zap yS27 ?_
 refine zf (zd ?_)
 refine zbY (α := Nat × (List Int)) [15, 16, 17, 18, 19, 20, 21, 22, 23] [5] [2021] (fun a => []) (fun a => [(5, .box [.t (.sc (.int .i64 x1.kind)), .t (.sc (.str x1.name)), .t (.sc (.int .i64 x1.n)), .t (.sl (a.2.map rI)), .nl])]) (fun a => a.1 ≤ fu ∧ zau a.1 x1 o1 a.2 = some r) ?_ ?_
 refine zb (za ?_)
 refine s_fa zdF ?_
 refine zv yA3 ?_
 refine s_eq ?_
 refine zf (zd ?_)
 refine zo F0 ?_ ?_ <;> intro C1 F1
 refine awp_nlB 5 3 [.t (.sc (.int .i64 x1.kind)), .t (.sc (.str x1.name)), .t (.sc (.int .i64 x1.n)), .t (.sl (([] : List Int).map rI)), .nl] (by conv => lhs; whnf) rfl rfl ?_
 refine za ?_
 refine s_mv ?_
 refine s_fa zeQ ?_
 refine zv yA24 ?_
 obtain ⟨v2, V2, F2⟩ := zc F1
 refine zN [(9200, 2021)] [] _ _ (zf5 fu _ _ V2) ?_
 obtain ⟨v3, V3, F3⟩ := zc F2
 refine zN [(9300, 2021), (9000, 9000)] [] _ _ (m_impl_AddScope_1_ok fu _ _ _ V3) ?_
 refine s_fa zeQ ?_
 refine s_stP yS24 ?_
 refine zf ?_
 exact s_jn (fu, v3) ⟨by first | omega | (dsimp only; omega), F3⟩
 refine awp_nlB 5 3 [.t (.sc (.int .i64 x1.kind)), .t (.sc (.str x1.name)), .t (.sc (.int .i64 x1.n)), .t (.sl (([] : List Int).map rI)), .nl] (by conv => lhs; whnf) rfl rfl ?_
 refine zi ?_
 exact s_jn (fu, ([] : List Int)) ⟨by first | omega | (dsimp only; omega), F1⟩
 clear F0
 rintro ⟨fu, g4⟩ ⟨hl5, F1⟩
 dsimp only at hl5 F1 ⊢
 obtain _ | fu := fu
 · rw [zau] at F1; cases F1
 rw [zau] at F1
 refine zb (zb (za ?_))
 refine s_fa zR ?_
 refine zv yA25 ?_
 refine zD yU25 ?_
 refine s_mv ?_
 refine zf (zd (zl ?_))
 refine awp_ownB 5 5040 27 [.t (.sc (.int .i64 x1.kind)), .t (.sc (.str x1.name)), .t (.sc (.int .i64 x1.n)), .t (.sl (g4.map rI)), .ar 5040] yI27.choose_spec ?_
 refine zax [7, 27, 28, 29, 30, 31, 32, 33, 34, 35, 36, 37, 38, 39] [5, 5040] [7, 36, 37] [5040] (fun a : Nat × Int × (List Form) => a.1) (fun a : Nat × Int × (List Form) => [(27, .t (.sc (.int .i64 a.2.1)))]) (fun a : Nat × Int × (List Form) => [(5, .box [.t (.sc (.int .i64 x1.kind)), .t (.sc (.str x1.name)), .t (.sc (.int .i64 x1.n)), .t (.sl (g4.map rI)), .ar 5040]), (5040, .arr (a.2.2.map Form.row) 27 true)]) (fun a : Nat × Int × (List Form) => a.1 ≤ fu ∧ zat a.1 x1 o1 g4 a.2.1 a.2.2 = some r ∧ 0 ≤ a.2.1) (fu, 0, ([] : List Form)) ⟨Nat.le_refl _, F1, by simp⟩ (by rfl) (by rfl) (fun _ => rfl) (zL (by conv => lhs; whnf) (by rfl) zbx) (zP (by conv => lhs; whnf) (by rfl) (zP (by conv => lhs; whnf) (by rfl) zbm)) (zcx hC rfl) (by repeat (first | exact zak rfl | refine zaG rfl ?_ | refine zZ rfl ?_)) (by repeat (first | exact za3 | exact zas rfl | refine zaH rfl ?_ | refine z6 rfl ?_)) ?_
 clear F1
 rintro ⟨fu, g6, g7⟩ ⟨hl8, F2, hn_g6⟩
 dsimp only at hl8 F2 hn_g6 ⊢
 obtain _ | fu := fu
 · rw [zat] at F2; cases F2
 rw [zat] at F2
 refine zb (za ?_)
 refine s_lt ?_
 refine zf (zd (zb ?_))
 refine zo F2 ?_ ?_ <;> intro C9 F3
 refine zT 25 (fun B10 => ?_)
 refine zi (zd (zb (zl (zb (za ?_)))))
 obtain ⟨v11, V11, F4⟩ := zc F3
 refine z7 Form.row V11 (Form.row_eq _) yE25 ?_
 refine za1 yA27 yS27 ?_
 refine zY yZ27 ?_
 refine zap yS27 ?_
 refine zf (zd ?_)
 refine zW yMix (by kernel_rfl) ?_
 refine s_fa zR ?_
 refine zv yA25 ?_
 refine zI yA27 yS27 ?_
 refine s_mv ?_
 obtain ⟨v12, V12, F5⟩ := zc F4
 refine zN [(9000, 9000)] [] _ _ (ih_m_impl_dressed_AddScope_1 fu (by omega) _ _ _ V12) ?_
 refine s_bs Form.row [v12] yP25 yR27 ?_
 obtain ⟨hk13, F6⟩ := zai F5
 refine zfo Form.row (fun y => Form.row_len y) hk13 yP25 ?_
 refine s_fa zR ?_
 refine s_stP yS25 ?_
 refine zaA (by kernel_rfl) ?_
 refine zX (zd (za ?_))
 refine zQ (zbg C9 B10 hn_g6) ?_
 refine s_mv ?_
 refine zf ?_
 exact s_rn (fu, (g6 + 1), (g7 ++ [v12])) ⟨by first | omega | (dsimp only; omega), F6, by first | omega | (dsimp only; omega)⟩ [(5040, 37)]
 refine zC (zr (zq (zu (zd (zb (za ?_))))))
 refine zI yA27 yS27 ?_
 refine zap yS27 ?_
 refine zf (zd (zh (zm ?_)))
 cases F3
 exact zag _ [5040] (by rw [Tryz.results77]; exact (zal (by conv => lhs; whnf) (by conv => lhs; whnf) yA27 yS27 rfl zaq))
end Go.Abs
