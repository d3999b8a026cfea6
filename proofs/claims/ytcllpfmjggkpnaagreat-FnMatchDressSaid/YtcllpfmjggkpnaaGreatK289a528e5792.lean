/- A part of the proof: what the functions that the law calls answer, as pure values. -/
import Derived.Test.YtcllpfmjggkpnaaGreatK5f501f5f0144
import Derived.Test.YtcllpfmjggkpnaaGreatK227875200f03
import Derived.Test.YtcllpfmjggkpnaaGreatKb347e3c4ab73
import Derived.Test.YtcllpfmjggkpnaaGreatK15cd140ce65e
import Derived.Test.YtcllpfmjggkpnaaGreatK887eea50e27a
import Derived.Test.YtcllpfmjggkpnaaGreatK98a493ba4651
import Derived.Test.YtcllpfmjggkpnaaGreatK2128be1e8112
set_option linter.unusedSimpArgs false
set_option linter.unusedVariables false
set_option maxRecDepth 100000
set_option maxHeartbeats 4000000
namespace Go.Abs
open Go.Proofs
def m_laws_FnMatchDress_AC (fuel : Nat) : Prop := ∀ (x1 : (List Int)) (r : Bool), zdM fuel x1 = some r → AC Tryz.prog 3 [.t (.sl (x1.map rB))] noOb (.t (.sc (.bool r))) noOb
theorem m_laws_FnMatchDress_ok (fuel : Nat) : m_laws_FnMatchDress_AC fuel := by
 intro x1 r F0
 unfold zdM at F0
 refine AC_i [.t (.sc (.bool r))] Tryz.func3 rfl Tryz.ntmps3 ?_
 intro C hC
 refine zb (za ?_)
 refine s_as ?_
 refine zf (zd (zb (zb (za ?_))))
 refine s_mv ?_
 refine zD yU22 ?_
 refine s_gt ?_
 refine zf (zd ?_)
 refine zo F0 ?_ ?_ <;> intro C1 F1
 refine zT 0 (fun B2 => ?_)
 refine zb (za ?_)
 refine s_as ?_
 refine zf (zd (zh (zg (zm ?_))))
 cases F1
 exact zk [] [] Tryz.results3
 refine zi (zd (zb (za ?_)))
 refine s_mv ?_
 obtain ⟨v3, V3, F2⟩ := zc F1
 refine zx [] (zgA fuel _ _ V3) ?_
 refine s_mv ?_
 iterate 4 refine zbP ?_
 refine zY yZ27 ?_
 refine zY yZ27 ?_
 refine s_as ?_
 refine zap yS27 ?_
 refine s_as ?_
 refine zap yS27 ?_
 refine zf (zd (zb (za ?_)))
 refine s_mv ?_
 refine zI yA27 yS27 ?_
 refine zI yA27 yS27 ?_
 obtain ⟨v4, V4, F3⟩ := zc F2
 refine zx [] (zfO fuel _ _ _ _ _ V4) ?_
 refine s_mv ?_
 refine zbP ?_
 refine zbP ?_
 refine s_as ?_
 refine s_as ?_
 refine zf (zd (zb (za ?_)))
 refine s_mv ?_
 refine zI yA27 yS27 ?_
 refine zI yA27 yS27 ?_
 obtain ⟨v5, V5, F4⟩ := zc F3
 refine zN [(9200, 2042)] [] _ _ (m_spec_MatchPattern_ok fuel _ _ _ _ _ V5) ?_
 refine s_mv ?_
 refine zbP ?_
 refine zbP ?_
 refine s_as ?_
 refine s_as ?_
 refine zf (zd (zb (za ?_)))
 refine zI yA27 yS27 ?_
 obtain ⟨v6, V6, F5⟩ := zc F4
 refine zx [] (zgO fuel _ _ _ V6) ?_
 refine s_mv ?_
 refine zbP ?_
 refine zbP ?_
 refine zY yZ27 ?_
 refine zap yS27 ?_
 refine s_as ?_
 refine zf (zd (zb ?_))
 refine zbY (α := Nat × Bool) [50, 51, 52, 53, 54, 55, 56, 57, 58, 59, 60, 61, 62, 63, 64, 65, 66] [2042] [] (fun a => [(66, .t (.sc (.bool a.2)))]) (fun a => [(2042, .arr (v5.1.map Hit.row) 38 false)]) (fun a => a.1 ≤ fuel ∧ zao a.1 v3 v4 v5 v6 a.2 = some r) ?_ ?_
 refine za ?_
 refine s_mv ?_
 refine s_mv ?_
 obtain ⟨v7, V7, F6⟩ := zc F5
 refine zx [2042] (zgL fuel _ _ _ V7) ?_
 refine zby ?_
 refine s_mv ?_
 refine zp _ 54 F6 ?_ ?_ <;> intro C8 F7
 iterate 3 refine r_no rfl ?_
 refine zz ?_
 refine s_mv ?_
 refine r_no rfl (r_no rfl ?_)
 refine zz ?_
 refine s_mv ?_
 refine r_no rfl (r_no rfl ?_)
 refine zz ?_
 refine zf ?_
 exact s_jn (fuel, true) ⟨by first | omega | (dsimp only; omega), F7⟩
 refine s_mv ?_
 refine s_mv ?_
 refine s_neB yU4 ?_
 refine zy ?_
 refine s_mv ?_
 refine zp _ 59 F7 ?_ ?_ <;> intro C9 F8
 refine r_no rfl (r_no rfl ?_)
 refine zz ?_
 refine s_mv ?_
 refine r_no rfl (r_no rfl ?_)
 refine zz ?_
 refine zf ?_
 exact s_jn (fuel, true) ⟨by first | omega | (dsimp only; omega), F8⟩
 refine s_mv ?_
 refine zby ?_
 refine zy ?_
 refine s_mv ?_
 refine zp _ 63 F8 ?_ ?_ <;> intro C10 F9
 refine r_no rfl (r_no rfl ?_)
 refine zz ?_
 refine zf ?_
 exact s_jn (fuel, true) ⟨by first | omega | (dsimp only; omega), F9⟩
 refine s_mv ?_
 refine zby ?_
 refine zy ?_
 refine zf ?_
 exact s_jn (fuel, (!v6.2)) ⟨by first | omega | (dsimp only; omega), F9⟩
 clear F5
 rintro ⟨fu, g11⟩ ⟨hl12, F6⟩
 dsimp only at hl12 F6 ⊢
 obtain _ | fu := fu
 · rw [zao] at F6; cases F6
 rw [zao] at F6
 refine zo F6 ?_ ?_ <;> intro C13 F7
 refine zbY (α := Nat × Bool) [2, 67, 68, 69, 70, 71, 72, 73, 74] [] [] (fun a => [(2, .t (.sc (.bool a.2)))]) (fun a => []) (fun a => a.1 ≤ fu ∧ zbE a.1  a.2 = some r) ?_ ?_
 refine za ?_
 refine s_mv ?_
 refine s_mv ?_
 obtain ⟨v14, V14, F8⟩ := zc F7
 refine zx [2042] (zgL fu _ _ _ V14) ?_
 refine s_mv ?_
 refine zp _ 70 F8 ?_ ?_ <;> intro C15 F9
 refine s_mv ?_
 refine s_mv ?_
 refine s_eqB yU4 ?_
 refine zz ?_
 refine s_as ?_
 refine zf ?_
 exact s_jn (fu, (decide (v4.2 = v5.2))) ⟨by first | omega | (dsimp only; omega), F9⟩
 iterate 3 refine r_no rfl ?_
 refine zy ?_
 refine s_as ?_
 refine zf ?_
 exact s_jn (fu, false) ⟨by first | omega | (dsimp only; omega), F9⟩
 clear F7
 rintro ⟨fu, g16⟩ ⟨hl17, F8⟩
 dsimp only at hl17 F8 ⊢
 obtain _ | fu := fu
 · rw [zbE] at F8; cases F8
 rw [zbE] at F8
 refine zh (zg (zm ?_))
 cases F8
 exact zk [] [] Tryz.results3
 refine zi (zd (zb (za ?_)))
 refine s_mv ?_
 refine zI yA27 yS27 ?_
 refine zI yA27 yS27 ?_
 obtain ⟨v18, V18, F8⟩ := zc F7
 refine zx [] (zfO fu _ _ _ _ _ V18) ?_
 refine s_mv ?_
 refine zbP ?_
 refine zbP ?_
 refine s_as ?_
 refine s_as ?_
 refine zf (zd (zb ?_))
 refine zbY (α := Nat × Bool) [82, 83, 84, 85, 86, 87, 88, 89, 90] [] [] (fun a => [(90, .t (.sc (.bool a.2)))]) (fun a => []) (fun a => a.1 ≤ fu ∧ zbD a.1 v4 v18 a.2 = some r) ?_ ?_
 refine za ?_
 refine s_mv ?_
 refine zby ?_
 refine s_mv ?_
 refine zp _ 84 F8 ?_ ?_ <;> intro C19 F9
 iterate 5 refine r_no rfl ?_
 refine zz ?_
 refine zf ?_
 exact s_jn (fu, true) ⟨by first | omega | (dsimp only; omega), F9⟩
 refine s_mv ?_
 refine zD yU30 ?_
 refine s_mv ?_
 refine zD yU30 ?_
 refine s_ne ?_
 refine zy ?_
 refine zf ?_
 exact s_jn (fu, (decide ((v18.1.length : Int) ≠ (v4.1.length : Int)))) ⟨by first | omega | (dsimp only; omega), F9⟩
 clear F8
 rintro ⟨fu, g20⟩ ⟨hl21, F9⟩
 dsimp only at hl21 F9 ⊢
 obtain _ | fu := fu
 · rw [zbD] at F9; cases F9
 rw [zbD] at F9
 refine zo F9 ?_ ?_ <;> intro C22 F10
 refine zb (za ?_)
 refine s_as ?_
 refine zf (zd (zh (zg (zm ?_))))
 cases F10
 exact zk [] [] Tryz.results3
 refine zi (zd (zb (zb (za ?_))))
 refine s_as ?_
 refine zf (zd (zl ?_))
 refine zbu (β := Int) [2, 15, 16, 17, 18, 19, 20, 91, 92, 93, 94, 95, 96, 97, 98, 99, 100, 101, 102, 103, 104, 105, 106, 107, 108, 109, 110, 111, 112, 113, 114, 115, 116, 117, 118, 119, 120, 121, 122, 123, 124, 125, 126, 127, 128, 129, 130, 131, 132, 133, 134, 135, 136] [] [] (fun a => [(2, .t (.sc (.bool false))), (15, .t (.sc (.int .i64 a.2)))]) (fun a => []) (fun a => a.1 ≤ fu ∧ zaW a.1 v4 v18 a.2 = some r) (fu, 0) ⟨Nat.le_refl _, F10⟩ ?_
 clear F10
 rintro ⟨fu, g23⟩ ⟨hl24, F11⟩
 dsimp only at hl24 F11 ⊢
 obtain _ | fu := fu
 · rw [zaW] at F11; cases F11
 rw [zaW] at F11
 refine zb (zb (za ?_))
 refine s_mv ?_
 refine s_mv ?_
 refine zD yU30 ?_
 refine s_lt ?_
 refine zf (zd ?_)
 refine zo F11 ?_ ?_ <;> intro C25 F12
 refine zT 7 (fun B26 => ?_)
 refine zi (zd (zb (zl (zb (za ?_)))))
 refine s_mv ?_
 refine s_mv ?_
 obtain ⟨v27, V27, F13⟩ := zc F12
 refine z7 Hit.row V27 (Hit.row_eq _) yE30 ?_
 refine za1 yA38 yS38 ?_
 obtain ⟨v28, V28, F14⟩ := zc F13
 refine zx [] (zgM fu _ _ V28) ?_
 refine s_as ?_
 refine zf (zd (zb (za ?_)))
 refine s_mv ?_
 refine s_mv ?_
 obtain ⟨v29, V29, F15⟩ := zc F14
 refine z7 Hit.row V29 (Hit.row_eq _) yE30 ?_
 refine za1 yA38 yS38 ?_
 obtain ⟨v30, V30, F16⟩ := zc F15
 refine zx [] (zgM fu _ _ V30) ?_
 refine s_as ?_
 refine zf (zd (zb (zb (za ?_))))
 refine s_mv ?_
 refine zD yU25 ?_
 refine s_mv ?_
 refine zD yU25 ?_
 refine s_ne ?_
 refine zf (zd ?_)
 refine zo F16 ?_ ?_ <;> intro C31 F17
 refine zb (za ?_)
 refine s_as ?_
 refine zf (zd (zh (zg (zj (zg (zw (zj (zg (zm ?_)))))))))
 cases F17
 exact zk [] [] Tryz.results3
 refine zi (zd (zb (za ?_)))
 refine s_as ?_
 refine zf (zd (zl ?_))
 refine zbu (β := Int) [2, 18, 19, 20, 112, 113, 114, 115, 116, 117, 118, 119, 120, 121, 122, 123, 124, 125, 126, 127, 128, 129, 130, 131, 132, 133, 134, 135, 136] [] [19] (fun a => [(2, .t (.sc (.bool false))), (18, .t (.sc (.int .i64 a.2)))]) (fun a => []) (fun a => a.1 ≤ fu ∧ zaV a.1 v4 v18 g23 v28 v30 a.2 = some r ∧ 0 ≤ a.2) (fu, 0) ⟨Nat.le_refl _, F17, by simp⟩ ?_
 clear F17
 rintro ⟨fu, g32⟩ ⟨hl33, F18, hn_g32⟩
 dsimp only at hl33 F18 hn_g32 ⊢
 obtain _ | fu := fu
 · rw [zaV] at F18; cases F18
 rw [zaV] at F18
 refine zb (zb (za ?_))
 refine s_mv ?_
 refine s_mv ?_
 refine zD yU25 ?_
 refine s_lt ?_
 refine zf (zd ?_)
 refine zo F18 ?_ ?_ <;> intro C34 F19
 refine zT 16 (fun B35 => ?_)
 refine zi (zd (zb (zl (zb (za ?_)))))
 refine s_mv ?_
 refine s_mv ?_
 obtain ⟨v36, V36, F20⟩ := zc F19
 refine z7 Form.row V36 (Form.row_eq _) yE25 ?_
 refine za1 yA27 yS27 ?_
 obtain ⟨v37, V37, F21⟩ := zc F20
 refine zx [] (zgO fu _ _ _ V37) ?_
 refine s_mv ?_
 refine zbP ?_
 refine zbP ?_
 refine zY yZ27 ?_
 refine zap yS27 ?_
 refine s_as ?_
 refine zf (zd ?_)
 refine zbY (α := Nat × Bool) [126, 127, 128, 129, 130, 131, 132, 133, 134, 135, 136] [] [] (fun a => [(136, .t (.sc (.bool a.2)))]) (fun a => []) (fun a => a.1 ≤ fu ∧ zbC a.1 v4 v18 g23 v28 v30 g32 a.2 = some r) ?_ ?_
 refine zW yMix (by kernel_rfl) ?_
 refine s_mv ?_
 refine zby ?_
 refine s_mv ?_
 refine zp _ 128 F21 ?_ ?_ <;> intro C38 F22
 iterate 7 refine r_no rfl ?_
 refine zz ?_
 refine zaA (by kernel_rfl) ?_
 exact s_jn (fu, true) ⟨by first | omega | (dsimp only; omega), F22⟩
 refine zI yA27 yS27 ?_
 refine s_mv ?_
 refine s_mv ?_
 obtain ⟨v39, V39, F23⟩ := zc F22
 refine z7 Form.row V39 (Form.row_eq _) yE25 ?_
 refine za1 yA27 yS27 ?_
 obtain ⟨v40, V40, F24⟩ := zc F23
 refine zx [] (zbW fu _ _ _ V40) ?_
 refine zby ?_
 refine zy ?_
 refine zaA (by kernel_rfl) ?_
 exact s_jn (fu, (!v40)) ⟨by first | omega | (dsimp only; omega), F24⟩
 clear F21
 rintro ⟨fu, g41⟩ ⟨hl42, F22⟩
 dsimp only at hl42 F22 ⊢
 obtain _ | fu := fu
 · rw [zbC] at F22; cases F22
 rw [zbC] at F22
 refine zo F22 ?_ ?_ <;> intro C43 F23
 refine zb (za ?_)
 refine s_as ?_
 refine zf (zd (zh (zj (zg (zw (zj (zj (zg (zw (zj (zg (zm ?_))))))))))))
 cases F23
 exact zk [] [] Tryz.results3
 refine zi (zX (zd (za ?_)))
 refine s_mv ?_
 refine zQ (zbg C34 B35 hn_g32) ?_
 refine s_as ?_
 refine zf ?_
 exact s_rn (fu, (g32 + 1)) ⟨by first | omega | (dsimp only; omega), F23, by first | omega | (dsimp only; omega)⟩
 refine zC (zr (zq (zu (zX (zd (za ?_))))))
 refine s_mv ?_
 refine zQ rfl ?_
 refine s_as ?_
 refine zf ?_
 exact s_rn (fu, (w64 (g23 + 1))) ⟨by first | omega | (dsimp only; omega), F19⟩
 refine zC (zr (zq (zu (zd (zb (za ?_))))))
 refine s_as ?_
 refine zf (zd (zh (zm ?_)))
 cases F12
 exact zk [] [] Tryz.results3
end Go.Abs
