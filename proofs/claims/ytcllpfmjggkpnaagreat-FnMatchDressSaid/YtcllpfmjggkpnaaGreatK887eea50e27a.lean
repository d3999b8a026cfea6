/- A part of the proof: what the functions that the law calls answer, as pure values. -/
import Derived.Test.YtcllpfmjggkpnaaGreatK73f09199af94
import Derived.Test.YtcllpfmjggkpnaaGreatK227875200f03
import Derived.Test.YtcllpfmjggkpnaaGreatK61ef258a925a
import Derived.Test.YtcllpfmjggkpnaaGreatKa15390ddf9b4
import Derived.Test.YtcllpfmjggkpnaaGreatK50fa35a3b9d2
import Derived.Test.YtcllpfmjggkpnaaGreatK98a493ba4651
import Derived.Test.YtcllpfmjggkpnaaGreatK864b0b0c4822
import Derived.Test.YtcllpfmjggkpnaaGreatK2128be1e8112
set_option linter.unusedSimpArgs false
set_option linter.unusedVariables false
set_option maxRecDepth 100000
set_option maxHeartbeats 4000000
namespace Go.Abs
open Go.Proofs
theorem m_impl_match_1_st (fu : Nat) (ih_m_impl_match : ∀ k, k ≤ fu → zev k) (ih_m_impl_match_1 : ∀ k, k ≤ fu → zeL k) : zeL (fu + 1) := by
 intro x1 x2 o1 o2 o3 r F0
 rw [zcR] at F0
 refine AC_i [.t (.sc (.bool r.1))] Tryz.func61 rfl Tryz.ntmps61 ?_
 intro C hC
 refine zb (za ?_)
 refine zbz ?_
 refine zbz ?_
 refine s_as ?_
 refine zf (zd (zb (za ?_)))
 refine zv yA23 ?_
 refine zI yA27 yS27 ?_
 refine zv yA25 ?_
 refine zI yA27 yS27 ?_
 obtain ⟨v1, V1, F1⟩ := zc F0
 refine zx [] (ih_m_impl_match fu (by omega) _ _ _ _ _ V1) ?_
 refine s_mv ?_
 refine zbP ?_
 refine zbP ?_
 refine s_as ?_
 refine s_as ?_
 refine zf (zd (zb (za ?_)))
 refine zv yA30 ?_
 refine s_mv ?_
 obtain ⟨hk2, F2⟩ := zai F1
 refine zfo Hit.row (fun y => Hit.row_len y) hk2 yP30 ?_
 refine zap yS30 ?_
 refine zf (zd (zb (za ?_)))
 refine s_mv ?_
 refine s_as ?_
 refine zf (zd ?_)
 refine zfJ 9002 20 10460 [.ar 10460] ?_
 refine zh (zm ?_)
 cases F2
 exact zk _ [] Tryz.results61
theorem m_impl_match_all (fuel : Nat) : zev fuel ∧ zeL fuel := by
 induction fuel using Nat.strongRecOn with
 | _ N ih =>
   cases N with
   | zero => exact ⟨(by intro x1 x2 x3 x4 r h; rw [zdg] at h; cases h), (by intro x1 x2 o1 o2 o3 r h; rw [zcR] at h; cases h)⟩
   | succ fu => exact ⟨m_impl_match_st fu (fun k hk => (ih k (by omega)).1) (fun k hk => (ih k (by omega)).2), m_impl_match_1_st fu (fun k hk => (ih k (by omega)).1) (fun k hk => (ih k (by omega)).2)⟩
theorem m_impl_match_ok (fuel : Nat) : zev fuel := (m_impl_match_all fuel).1
def m_impl_MatchPattern_AC (fuel : Nat) : Prop := ∀ (x1 : (List Bind)) (x2 : Form) (x3 : (List Form)) (x4 : Form) (r : ((List Hit) × Bool)), zch fuel x1 x2 x3 x4 = some r → AC Tryz.prog 6 [.t (.sl (x1.map Bind.row)), .ag [.t (.sc (.int .i64 x2.kind)), .t (.sc (.str x2.name)), .t (.sc (.int .i64 x2.n)), .t (.sl (x2.scopes.map rI)), .t (.sl (x2.kids.map Form.row))], .t (.sl (x3.map Form.row)), .ag [.t (.sc (.int .i64 x4.kind)), .t (.sc (.str x4.name)), .t (.sc (.int .i64 x4.n)), .t (.sl (x4.scopes.map rI)), .t (.sl (x4.kids.map Form.row))]] noOb (.tp [.t (.sl (r.1.map Hit.row)), .t (.sc (.bool r.2))]) noOb
theorem zfO (fuel : Nat) : m_impl_MatchPattern_AC fuel := by
 intro x1 x2 x3 x4 r F0
 unfold zch at F0
 refine AC_i [.t (.sl (r.1.map Hit.row)), .t (.sc (.bool r.2))] Tryz.func6 rfl Tryz.ntmps6 ?_
 intro C hC
 refine zb (za ?_)
 refine zbz ?_
 refine zbz ?_
 refine s_as ?_
 refine s_as ?_
 refine zf (zd (zb ?_))
 refine zbY (α := Nat × Bool) [12, 13, 14, 15, 16, 17, 18, 19, 20, 21, 22, 23, 24, 25] [] [] (fun a => [(25, .t (.sc (.bool a.2)))]) (fun a => []) (fun a => a.1 ≤ fuel ∧ zaF a.1 x1 x2 x3 x4 a.2 = some r) ?_ ?_
 refine za ?_
 refine s_mv ?_
 obtain ⟨v1, V1, F1⟩ := zc F0
 refine zx [] (zeP fuel _ _ V1) ?_
 refine zby ?_
 refine s_mv ?_
 refine zp _ 15 F1 ?_ ?_ <;> intro C2 F2
 iterate 4 refine r_no rfl ?_
 refine zz ?_
 refine s_mv ?_
 iterate 3 refine r_no rfl ?_
 refine zz ?_
 refine zf ?_
 exact s_jn (fuel, true) ⟨by first | omega | (dsimp only; omega), F2⟩
 refine zI yA27 yS27 ?_
 refine s_mv ?_
 obtain ⟨v3, V3, F3⟩ := zc F2
 refine zx [] (m_impl_PatternValid_ok fuel _ _ _ V3) ?_
 refine zby ?_
 refine zy ?_
 refine s_mv ?_
 refine zp _ 21 F3 ?_ ?_ <;> intro C4 F4
 iterate 3 refine r_no rfl ?_
 refine zz ?_
 refine zf ?_
 exact s_jn (fuel, true) ⟨by first | omega | (dsimp only; omega), F4⟩
 refine zI yA27 yS27 ?_
 obtain ⟨v5, V5, F5⟩ := zc F4
 refine zx [] (zci fuel _ _ V5) ?_
 refine zby ?_
 refine zy ?_
 refine zf ?_
 exact s_jn (fuel, (!v5)) ⟨by first | omega | (dsimp only; omega), F5⟩
 clear F0
 rintro ⟨fu, g6⟩ ⟨hl7, F1⟩
 dsimp only at hl7 F1 ⊢
 obtain _ | fu := fu
 · rw [zaF] at F1; cases F1
 rw [zaF] at F1
 refine zo F1 ?_ ?_ <;> intro C8 F2
 refine zb (za ?_)
 refine s_as ?_
 refine s_as ?_
 refine zf (zd (zh (zg (zm ?_))))
 cases F2
 exact zk [] [] Tryz.results6
 refine zi (zd (zb (za ?_)))
 refine s_mv ?_
 refine zI yA27 yS27 ?_
 refine s_mv ?_
 refine zI yA27 yS27 ?_
 obtain ⟨v9, V9, F3⟩ := zc F2
 refine zx [] (m_impl_match_ok fu _ _ _ _ _ V9) ?_
 refine s_mv ?_
 refine zbP ?_
 refine zbP ?_
 refine s_as ?_
 refine s_as ?_
 refine zf (zd (zb (zb (za ?_))))
 refine s_mv ?_
 refine zby ?_
 refine zf (zd ?_)
 refine zo F3 ?_ ?_ <;> intro C10 F4
 refine zb (za ?_)
 refine s_as ?_
 refine s_as ?_
 refine zf (zd (zh (zg (zm ?_))))
 cases F4
 exact zk [] [] Tryz.results6
 refine zi (zd (zb (za ?_)))
 refine s_mv ?_
 refine s_as ?_
 refine s_as ?_
 refine zf (zd (zh (zm ?_)))
 cases F4
 exact zk [] [] Tryz.results6
def m_spec_l1Ints_AC (fuel : Nat) : Prop := ∀ (x1 : (List Int)) (x2 : (List Int)) (r : Bool), zeH fuel x1 x2 = some r → AC Tryz.prog 65 [.t (.sl (x1.map rI)), .t (.sl (x2.map rI))] noOb (.t (.sc (.bool r))) noOb
theorem m_spec_l1Ints_ok (fuel : Nat) : m_spec_l1Ints_AC fuel := by
 intro x1 x2 r F0
 unfold zeH at F0
 refine AC_i [.t (.sc (.bool r))] Tryz.func65 rfl Tryz.ntmps65 ?_
 intro C hC
 refine zb (za ?_)
 refine s_as ?_
 refine zf (zd (zb (zb (za ?_))))
 refine s_mv ?_
 refine zD yU24 ?_
 refine s_mv ?_
 refine zD yU24 ?_
 refine s_ne ?_
 refine zf (zd ?_)
 refine zo F0 ?_ ?_ <;> intro C1 F1
 refine zb (za ?_)
 refine s_as ?_
 refine zf (zd (zh (zg (zm ?_))))
 cases F1
 exact zk [] [] Tryz.results65
 refine zi (zd (zb (zb (za ?_))))
 refine s_as ?_
 refine zf (zd (zl ?_))
 refine zbu (β := Int) [4, 5, 11, 12, 13, 14, 15, 16, 17, 18, 19, 20, 21, 22, 23, 24, 25] [] [] (fun a => [(5, .t (.sc (.int .i64 a.2)))]) (fun a => []) (fun a => a.1 ≤ fuel ∧ zcI a.1 x1 x2 a.2 = some r ∧ 0 ≤ a.2) (fuel, 0) ⟨Nat.le_refl _, F1, by simp⟩ ?_
 clear F1
 rintro ⟨fu, g2⟩ ⟨hl3, F2, hn_g2⟩
 dsimp only at hl3 F2 hn_g2 ⊢
 obtain _ | fu := fu
 · rw [zcI] at F2; cases F2
 rw [zcI] at F2
 refine zb (zb (za ?_))
 refine s_mv ?_
 refine s_mv ?_
 refine zD yU24 ?_
 refine s_lt ?_
 refine zf (zd ?_)
 refine zo F2 ?_ ?_ <;> intro C4 F3
 refine zT 0 (fun B5 => ?_)
 refine zi (zd (zb (zl (zb ?_))))
 refine zW yMix (by kernel_rfl) ?_
 refine s_mv ?_
 refine s_mv ?_
 obtain ⟨v6, V6, F4⟩ := zc F3
 refine z7 rI V6 rfl yE24 ?_
 refine zv yA3 ?_
 refine s_mv ?_
 refine s_mv ?_
 obtain ⟨v7, V7, F5⟩ := zc F4
 refine z7 rI V7 rfl yE24 ?_
 refine zv yA3 ?_
 refine s_ne ?_
 refine zaA (by kernel_rfl) ?_
 refine zd ?_
 refine zo F5 ?_ ?_ <;> intro C8 F6
 refine zb (za ?_)
 refine s_as ?_
 refine zf (zd (zh (zj (zg (zw (zj (zg (zm ?_))))))))
 cases F6
 exact zk [] [] Tryz.results65
 refine zi (zX (zd (za ?_)))
 refine s_mv ?_
 refine zQ (zbg C4 B5 hn_g2) ?_
 refine s_as ?_
 refine zf ?_
 exact s_rn (fu, (g2 + 1)) ⟨by first | omega | (dsimp only; omega), F6, by first | omega | (dsimp only; omega)⟩
 refine zC (zr (zq (zu (zd (zb (za ?_))))))
 refine s_as ?_
 refine zf (zd (zh (zm ?_)))
 cases F3
 exact zk [] [] Tryz.results65
def m_spec_BindsValid_AC (fuel : Nat) : Prop := ∀ (x1 : (List Bind)) (r : Bool), zdt fuel x1 = some r → AC Tryz.prog 22 [.t (.sl (x1.map Bind.row))] noOb (.t (.sc (.bool r))) noOb
theorem m_spec_BindsValid_ok (fuel : Nat) : m_spec_BindsValid_AC fuel := by
 intro x1 r F0
 unfold zdt at F0
 refine AC_i [.t (.sc (.bool r))] Tryz.func22 rfl Tryz.ntmps22 ?_
 intro C hC
 refine zb (za ?_)
 refine s_as ?_
 refine zf (zd (zb (zb (za ?_))))
 refine s_as ?_
 refine zf (zd (zl ?_))
 refine zbu (β := Int) [2, 3, 4, 5, 6, 7, 8, 9, 10, 11, 12, 13, 14, 15, 16, 17, 18, 19, 20, 21, 22, 23, 24, 25, 26, 27, 28, 29, 30, 31, 32, 33, 34, 35, 36, 37, 38, 39, 40, 41, 42, 43, 44, 45, 46, 47, 48, 49, 50, 51, 52, 53, 54, 55, 56, 57, 58, 59, 60, 61, 62, 63, 64, 65, 66, 67, 68, 69, 70, 71, 72, 73, 74, 75] [] [] (fun a => [(2, .t (.sc (.bool false))), (3, .t (.sc (.int .i64 a.2)))]) (fun a => []) (fun a => a.1 ≤ fuel ∧ zbb a.1 x1 a.2 = some r) (fuel, 0) ⟨Nat.le_refl _, F0⟩ ?_
 clear F0
 rintro ⟨fu, g1⟩ ⟨hl2, F1⟩
 dsimp only at hl2 F1 ⊢
 obtain _ | fu := fu
 · rw [zbb] at F1; cases F1
 rw [zbb] at F1
 refine zb ?_
 refine zbY (α := Nat × Bool) [5, 6, 7, 8, 9, 10, 11, 12] [] [] (fun a => [(12, .t (.sc (.bool a.2)))]) (fun a => []) (fun a => a.1 ≤ fu ∧ zbd a.1 x1 g1 a.2 = some r) ?_ ?_
 refine za ?_
 refine s_mv ?_
 refine s_mv ?_
 refine zD yU23 ?_
 refine s_lt ?_
 refine s_mv ?_
 refine zp _ 9 F1 ?_ ?_ <;> intro C3 F2
 refine s_mv ?_
 refine s_le ?_
 refine zz ?_
 refine zf ?_
 exact s_jn (fu, (decide (g1 ≤ 60))) ⟨by first | omega | (dsimp only; omega), F2⟩
 refine r_no rfl (r_no rfl ?_)
 refine zy ?_
 refine zf ?_
 exact s_jn (fu, false) ⟨by first | omega | (dsimp only; omega), F2⟩
 clear F1
 rintro ⟨fu, g4⟩ ⟨hl5, F2⟩
 dsimp only at hl5 F2 ⊢
 obtain _ | fu := fu
 · rw [zbd] at F2; cases F2
 rw [zbd] at F2
 refine zo F2 ?_ ?_ <;> intro C6 F3
 refine zi (zd (zb (zl (zb ?_))))
 refine zbY (α := Nat × Bool) [15, 16, 17, 18, 19, 20, 21, 22, 23, 24, 25, 26, 27, 28, 29, 30, 31, 32, 33, 34, 35, 36, 37, 38, 39, 40, 41, 42, 43, 44, 45, 46] [] [] (fun a => [(46, .t (.sc (.bool a.2)))]) (fun a => []) (fun a => a.1 ≤ fu ∧ zaI a.1 x1 g1 a.2 = some r) ?_ ?_
 refine za ?_
 refine s_mv ?_
 refine s_mv ?_
 obtain ⟨v7, V7, F4⟩ := zc F3
 refine z7 Bind.row V7 (Bind.row_eq _) yE23 ?_
 refine s_fa yF50_0 ?_
 refine zv yA9 ?_
 obtain ⟨v8, V8, F5⟩ := zc F4
 refine zx [] (zgt fu _ _ V8) ?_
 refine zby ?_
 refine s_mv ?_
 refine zp _ 22 F5 ?_ ?_ <;> intro C9 F6
 iterate 7 refine r_no rfl ?_
 refine zz ?_
 refine s_mv ?_
 iterate 6 refine r_no rfl ?_
 refine zz ?_
 refine s_mv ?_
 iterate 6 refine r_no rfl ?_
 refine zz ?_
 refine zf ?_
 exact s_jn (fu, true) ⟨by first | omega | (dsimp only; omega), F6⟩
 refine s_mv ?_
 refine s_mv ?_
 obtain ⟨v10, V10, F7⟩ := zc F6
 refine z7 Bind.row V10 (Bind.row_eq _) yE23 ?_
 refine s_fa yF50_1 ?_
 refine zv yA24 ?_
 obtain ⟨v11, V11, F8⟩ := zc F7
 refine zx [] (zgH fu _ _ V11) ?_
 refine zby ?_
 refine zy ?_
 refine s_mv ?_
 refine zp _ 31 F8 ?_ ?_ <;> intro C12 F9
 iterate 6 refine r_no rfl ?_
 refine zz ?_
 refine s_mv ?_
 iterate 6 refine r_no rfl ?_
 refine zz ?_
 refine zf ?_
 exact s_jn (fu, true) ⟨by first | omega | (dsimp only; omega), F9⟩
 refine s_mv ?_
 refine s_mv ?_
 obtain ⟨v13, V13, F10⟩ := zc F9
 refine z7 Bind.row V13 (Bind.row_eq _) yE23 ?_
 refine s_fa yF50_2 ?_
 refine zv yA3 ?_
 refine s_lt ?_
 refine zy ?_
 refine s_mv ?_
 refine zp _ 39 F10 ?_ ?_ <;> intro C14 F11
 iterate 6 refine r_no rfl ?_
 refine zz ?_
 refine zf ?_
 exact s_jn (fu, true) ⟨by first | omega | (dsimp only; omega), F11⟩
 refine s_mv ?_
 refine s_mv ?_
 obtain ⟨v15, V15, F12⟩ := zc F11
 refine z7 Bind.row V15 (Bind.row_eq _) yE23 ?_
 refine s_fa yF50_2 ?_
 refine zv yA3 ?_
 refine s_gt ?_
 refine zy ?_
 refine zf ?_
 exact s_jn (fu, (decide (999 < v15.id))) ⟨by first | omega | (dsimp only; omega), F12⟩
 clear F3
 rintro ⟨fu, g16⟩ ⟨hl17, F4⟩
 dsimp only at hl17 F4 ⊢
 obtain _ | fu := fu
 · rw [zaI] at F4; cases F4
 rw [zaI] at F4
 refine zo F4 ?_ ?_ <;> intro C18 F5
 refine zb (za ?_)
 refine s_as ?_
 refine zf (zd (zh (zg (zj (zg (zw (zj (zg (zm ?_)))))))))
 cases F5
 exact zk [] [] Tryz.results22
 refine zi (zd (zb (za ?_)))
 refine s_as ?_
 refine zf (zd (zl ?_))
 refine zbu (β := Int) [2, 4, 47, 48, 49, 50, 51, 52, 53, 54, 55, 56, 57, 58, 59, 60, 61, 62, 63, 64, 65, 66, 67, 68, 69, 70, 71, 72, 73, 74, 75] [] [] (fun a => [(2, .t (.sc (.bool false))), (4, .t (.sc (.int .i64 a.2)))]) (fun a => []) (fun a => a.1 ≤ fu ∧ zba a.1 x1 g1 a.2 = some r) (fu, 0) ⟨Nat.le_refl _, F5⟩ ?_
 clear F5
 rintro ⟨fu, g19⟩ ⟨hl20, F6⟩
 dsimp only at hl20 F6 ⊢
 obtain _ | fu := fu
 · rw [zba] at F6; cases F6
 rw [zba] at F6
 refine zb (zb (za ?_))
 refine s_mv ?_
 refine s_mv ?_
 refine s_lt ?_
 refine zf (zd ?_)
 refine zo F6 ?_ ?_ <;> intro C21 F7
 refine zi (zd (zb (zl ?_)))
 refine zbY (α := Nat × Bool) [52, 53, 54, 55, 56, 57, 58, 59, 60, 61, 62, 63, 64, 65, 66, 67, 68, 69, 70, 71, 72, 73, 74, 75] [] [] (fun a => [(75, .t (.sc (.bool a.2)))]) (fun a => []) (fun a => a.1 ≤ fu ∧ zbc a.1 x1 g1 g19 a.2 = some r) ?_ ?_
 refine zW yMix (by kernel_rfl) ?_
 refine s_mv ?_
 refine s_mv ?_
 obtain ⟨v22, V22, F8⟩ := zc F7
 refine z7 Bind.row V22 (Bind.row_eq _) yE23 ?_
 refine s_fa yF50_0 ?_
 refine zv yA9 ?_
 refine s_mv ?_
 refine s_mv ?_
 obtain ⟨v23, V23, F9⟩ := zc F8
 refine z7 Bind.row V23 (Bind.row_eq _) yE23 ?_
 refine s_fa yF50_0 ?_
 refine zv yA9 ?_
 refine zf1 ?_
 refine s_mv ?_
 refine zp _ 63 F9 ?_ ?_ <;> intro C24 F10
 refine s_mv ?_
 refine s_mv ?_
 obtain ⟨v25, V25, F11⟩ := zc F10
 refine z7 Bind.row V25 (Bind.row_eq _) yE23 ?_
 refine s_fa yF50_1 ?_
 refine zv yA24 ?_
 refine s_mv ?_
 refine s_mv ?_
 obtain ⟨v26, V26, F12⟩ := zc F11
 refine z7 Bind.row V26 (Bind.row_eq _) yE23 ?_
 refine s_fa yF50_1 ?_
 refine zv yA24 ?_
 obtain ⟨v27, V27, F13⟩ := zc F12
 refine zx [] (m_spec_l1Ints_ok fu _ _ _ V27) ?_
 refine zz ?_
 refine zaA (by kernel_rfl) ?_
 exact s_jn (fu, v27) ⟨by first | omega | (dsimp only; omega), F13⟩
 iterate 11 refine r_no rfl ?_
 refine zy ?_
 refine zaA (by kernel_rfl) ?_
 exact s_jn (fu, false) ⟨by first | omega | (dsimp only; omega), F10⟩
 clear F7
 rintro ⟨fu, g28⟩ ⟨hl29, F8⟩
 dsimp only at hl29 F8 ⊢
 obtain _ | fu := fu
 · rw [zbc] at F8; cases F8
 rw [zbc] at F8
 refine zo F8 ?_ ?_ <;> intro C30 F9
 refine zb (za ?_)
 refine s_as ?_
 refine zf (zd (zh (zj (zg (zw (zj (zj (zg (zw (zj (zg (zm ?_))))))))))))
 cases F9
 exact zk [] [] Tryz.results22
 refine zi (zX (zd (za ?_)))
 refine s_mv ?_
 refine zQ rfl ?_
 refine s_as ?_
 refine zf ?_
 exact s_rn (fu, (w64 (g19 + 1))) ⟨by first | omega | (dsimp only; omega), F9⟩
 refine zC (zr (zq (zu (zX (zd (za ?_))))))
 refine s_mv ?_
 refine zQ rfl ?_
 refine s_as ?_
 refine zf ?_
 exact s_rn (fu, (w64 (g1 + 1))) ⟨by first | omega | (dsimp only; omega), F7⟩
 refine zC (zr (zq (zu (zd (zb (za ?_))))))
 refine s_mv ?_
 refine zD yU23 ?_
 refine s_le ?_
 refine s_as ?_
 refine zf (zd (zh (zm ?_)))
 cases F3
 exact zk [] [] Tryz.results22
def m_spec_l3Is_AC (fuel : Nat) : Prop := ∀ (x1 : Form) (r : Bool), zgs fuel x1 = some r → AC Tryz.prog 116 [.ag [.t (.sc (.int .i64 x1.kind)), .t (.sc (.str x1.name)), .t (.sc (.int .i64 x1.n)), .t (.sl (x1.scopes.map rI)), .t (.sl (x1.kids.map Form.row))]] noOb (.t (.sc (.bool r))) noOb
theorem m_spec_l3Is_ok (fuel : Nat) : m_spec_l3Is_AC fuel := by
 intro x1 r F0
 unfold zgs at F0
 refine AC_i [.t (.sc (.bool r))] Tryz.func116 rfl Tryz.ntmps116 ?_
 intro C hC
 refine zb (za ?_)
 refine zbz ?_
 refine s_as ?_
 refine zf (zd (zb (za ?_)))
 refine s_fa zdF ?_
 refine zv yA3 ?_
 refine s_eq ?_
 refine s_mv ?_
 refine zp _ 6 F0 ?_ ?_ <;> intro C1 F1
 refine zI yA27 yS27 ?_
 obtain ⟨v2, V2, F2⟩ := zc F1
 refine zx [] (zdJ fuel _ _ V2) ?_
 refine zz ?_
 refine s_as ?_
 refine zf (zd (zh (zm ?_)))
 cases F2
 exact zk [] [] Tryz.results116
 refine r_no rfl (r_no rfl ?_)
 refine zy ?_
 refine s_as ?_
 refine zf (zd (zh (zm ?_)))
 cases F1
 exact zk [] [] Tryz.results116
def zeh (fuel : Nat) : Prop := ∀ (x1 : Form) (x2 : Form) (r : Bool), zbG fuel x1 x2 = some r → AC Tryz.prog 74 [.ag [.t (.sc (.int .i64 x1.kind)), .t (.sc (.str x1.name)), .t (.sc (.int .i64 x1.n)), .t (.sl (x1.scopes.map rI)), .t (.sl (x1.kids.map Form.row))], .ag [.t (.sc (.int .i64 x2.kind)), .t (.sc (.str x2.name)), .t (.sc (.int .i64 x2.n)), .t (.sl (x2.scopes.map rI)), .t (.sl (x2.kids.map Form.row))]] noOb (.t (.sc (.bool r))) noOb
theorem m_spec_FormSame_st (fu : Nat) (ih_m_spec_FormSame : ∀ k, k ≤ fu → zeh k) : zeh (fu + 1) := by
 intro x1 x2 r F0
 rw [zbG] at F0
 refine AC_i [.t (.sc (.bool r))] Tryz.func74 rfl Tryz.ntmps74 ?_
 intro C hC
 refine zb (za ?_)
 refine zbz ?_
 refine zbz ?_
 refine s_as ?_
 refine zf (zd (zb (zb (za ?_))))
 refine s_fa zdF ?_
 refine zv yA3 ?_
 refine s_fa zdF ?_
 refine zv yA3 ?_
 refine s_ne ?_
 refine s_mv ?_
 refine zp _ 11 F0 ?_ ?_ <;> intro C1 F1
 iterate 5 refine r_no rfl ?_
 refine zz ?_
 refine s_mv ?_
 iterate 5 refine r_no rfl ?_
 refine zz ?_
 refine s_mv ?_
 iterate 6 refine r_no rfl ?_
 refine zz ?_
 refine s_mv ?_
 iterate 7 refine r_no rfl ?_
 refine zz ?_
 refine zf (zd (zM rfl (zb (za ?_))))
 refine s_as ?_
 refine zf (zd (zh (zg (zm ?_))))
 cases F1
 exact zk [] [] Tryz.results74
 refine s_fa zbQ ?_
 refine zv yA9 ?_
 refine s_fa zbQ ?_
 refine zv yA9 ?_
 refine s_neS ?_
 refine zy ?_
 refine s_mv ?_
 refine zp _ 18 F1 ?_ ?_ <;> intro C2 F2
 iterate 5 refine r_no rfl ?_
 refine zz ?_
 refine s_mv ?_
 iterate 6 refine r_no rfl ?_
 refine zz ?_
 refine s_mv ?_
 iterate 7 refine r_no rfl ?_
 refine zz ?_
 refine zf (zd (zM rfl (zb (za ?_))))
 refine s_as ?_
 refine zf (zd (zh (zg (zm ?_))))
 cases F2
 exact zk [] [] Tryz.results74
 refine s_fa zgf ?_
 refine zv yA3 ?_
 refine s_fa zgf ?_
 refine zv yA3 ?_
 refine s_ne ?_
 refine zy ?_
 refine s_mv ?_
 refine zp _ 25 F2 ?_ ?_ <;> intro C3 F3
 iterate 6 refine r_no rfl ?_
 refine zz ?_
 refine s_mv ?_
 iterate 7 refine r_no rfl ?_
 refine zz ?_
 refine zf (zd (zM rfl (zb (za ?_))))
 refine s_as ?_
 refine zf (zd (zh (zg (zm ?_))))
 cases F3
 exact zk [] [] Tryz.results74
 refine s_fa zeQ ?_
 refine zv yA24 ?_
 refine s_fa zeQ ?_
 refine zv yA24 ?_
 obtain ⟨v4, V4, F4⟩ := zc F3
 refine zx [] (m_spec_l1Ints_ok fu _ _ _ V4) ?_
 refine zby ?_
 refine zy ?_
 refine s_mv ?_
 refine zp _ 33 F4 ?_ ?_ <;> intro C5 F5
 iterate 7 refine r_no rfl ?_
 refine zz ?_
 refine zf (zd (zM rfl (zb (za ?_))))
 refine s_as ?_
 refine zf (zd (zh (zg (zm ?_))))
 cases F5
 exact zk [] [] Tryz.results74
 refine s_fa zR ?_
 refine zv yA25 ?_
 refine zD yU25 ?_
 refine s_fa zR ?_
 refine zv yA25 ?_
 refine zD yU25 ?_
 refine s_ne ?_
 refine zy ?_
 refine zf (zd ?_)
 refine zo F5 ?_ ?_ <;> intro C6 F6
 refine zb (za ?_)
 refine s_as ?_
 refine zf (zd (zh (zg (zm ?_))))
 cases F6
 exact zk [] [] Tryz.results74
 refine zi (zd (zb (zb (za ?_))))
 refine s_as ?_
 refine zf (zd (zl ?_))
 refine zbu (β := Int) [4, 5, 42, 43, 44, 45, 46, 47, 48, 49, 50, 51, 52, 53, 54, 55, 56, 57, 58, 59, 60] [] [] (fun a => [(5, .t (.sc (.int .i64 a.2)))]) (fun a => []) (fun a => a.1 ≤ fu ∧ zbR a.1 x1 x2 a.2 = some r ∧ 0 ≤ a.2) (fu, 0) ⟨Nat.le_refl _, F6, by simp⟩ ?_
 clear F6
 rintro ⟨fu, g7⟩ ⟨hl8, F7, hn_g7⟩
 dsimp only at hl8 F7 hn_g7 ⊢
 obtain _ | fu := fu
 · rw [zbR] at F7; cases F7
 rw [zbR] at F7
 refine zb (zb (za ?_))
 refine s_mv ?_
 refine s_fa zR ?_
 refine zv yA25 ?_
 refine zD yU25 ?_
 refine s_lt ?_
 refine zf (zd ?_)
 refine zo F7 ?_ ?_ <;> intro C9 F8
 refine zT 35 (fun B10 => ?_)
 refine zi (zd (zb (zl (zb ?_))))
 refine zW yMix (by kernel_rfl) ?_
 refine s_fa zR ?_
 refine zv yA25 ?_
 refine s_mv ?_
 obtain ⟨v11, V11, F9⟩ := zc F8
 refine z7 Form.row V11 (Form.row_eq _) yE25 ?_
 refine za1 yA27 yS27 ?_
 refine s_fa zR ?_
 refine zv yA25 ?_
 refine s_mv ?_
 obtain ⟨v12, V12, F10⟩ := zc F9
 refine z7 Form.row V12 (Form.row_eq _) yE25 ?_
 refine za1 yA27 yS27 ?_
 obtain ⟨v13, V13, F11⟩ := zc F10
 refine zx [] (ih_m_spec_FormSame fu (by omega) _ _ _ V13) ?_
 refine zby ?_
 refine zaA (by kernel_rfl) ?_
 refine zd ?_
 refine zo F11 ?_ ?_ <;> intro C14 F12
 refine zb (za ?_)
 refine s_as ?_
 refine zf (zd (zh (zj (zg (zw (zj (zg (zm ?_))))))))
 cases F12
 exact zk [] [] Tryz.results74
 refine zi (zX (zd (za ?_)))
 refine s_mv ?_
 refine zQ (zbg C9 B10 hn_g7) ?_
 refine s_as ?_
 refine zf ?_
 exact s_rn (fu, (g7 + 1)) ⟨by first | omega | (dsimp only; omega), F12, by first | omega | (dsimp only; omega)⟩
 refine zC (zr (zq (zu (zd (zb (za ?_))))))
 refine s_as ?_
 refine zf (zd (zh (zm ?_)))
 cases F8
 exact zk [] [] Tryz.results74
theorem m_spec_FormSame_all (fuel : Nat) : zeh fuel := by
 induction fuel using Nat.strongRecOn with
 | _ N ih =>
   cases N with
   | zero => exact (by intro x1 x2 r h; rw [zbG] at h; cases h)
   | succ fu => exact m_spec_FormSame_st fu (fun k hk => (ih k (by omega)))
theorem zgJ (fuel : Nat) : zeh fuel := (m_spec_FormSame_all fuel)
def m_spec_l4In_AC (fuel : Nat) : Prop := ∀ (x1 : (List Form)) (x2 : Form) (r : Bool), zep fuel x1 x2 = some r → AC Tryz.prog 69 [.t (.sl (x1.map Form.row)), .ag [.t (.sc (.int .i64 x2.kind)), .t (.sc (.str x2.name)), .t (.sc (.int .i64 x2.n)), .t (.sl (x2.scopes.map rI)), .t (.sl (x2.kids.map Form.row))]] noOb (.t (.sc (.bool r))) noOb
theorem zfY (fuel : Nat) : m_spec_l4In_AC fuel := by
 intro x1 x2 r F0
 unfold zep at F0
 refine AC_i [.t (.sc (.bool r))] Tryz.func69 rfl Tryz.ntmps69 ?_
 intro C hC
 refine zb (za ?_)
 refine zbz ?_
 refine s_as ?_
 refine zf (zd (zb (zb (za ?_))))
 refine s_as ?_
 refine zf (zd (zl ?_))
 refine zbu (β := Int) [4, 5, 6, 7, 8, 9, 10, 11, 12, 13, 14, 15, 16, 17] [] [] (fun a => [(5, .t (.sc (.int .i64 a.2)))]) (fun a => []) (fun a => a.1 ≤ fuel ∧ zcQ a.1 x1 x2 a.2 = some r ∧ 0 ≤ a.2) (fuel, 0) ⟨Nat.le_refl _, F0, by simp⟩ ?_
 clear F0
 rintro ⟨fu, g1⟩ ⟨hl2, F1, hn_g1⟩
 dsimp only at hl2 F1 hn_g1 ⊢
 obtain _ | fu := fu
 · rw [zcQ] at F1; cases F1
 rw [zcQ] at F1
 refine zb (zb (za ?_))
 refine s_mv ?_
 refine s_mv ?_
 refine zD yU25 ?_
 refine s_lt ?_
 refine zf (zd ?_)
 refine zo F1 ?_ ?_ <;> intro C3 F2
 refine zT 0 (fun B4 => ?_)
 refine zi (zd (zb (zl (zb ?_))))
 refine zW yMix (by kernel_rfl) ?_
 refine s_mv ?_
 refine s_mv ?_
 obtain ⟨v5, V5, F3⟩ := zc F2
 refine z7 Form.row V5 (Form.row_eq _) yE25 ?_
 refine za1 yA27 yS27 ?_
 refine zI yA27 yS27 ?_
 obtain ⟨v6, V6, F4⟩ := zc F3
 refine zx [] (zgJ fu _ _ _ V6) ?_
 refine zaA (by kernel_rfl) ?_
 refine zd ?_
 refine zo F4 ?_ ?_ <;> intro C7 F5
 refine zb (za ?_)
 refine s_as ?_
 refine zf (zd (zh (zj (zg (zw (zj (zg (zm ?_))))))))
 cases F5
 exact zk [] [] Tryz.results69
 refine zi (zX (zd (za ?_)))
 refine s_mv ?_
 refine zQ (zbg C3 B4 hn_g1) ?_
 refine s_as ?_
 refine zf ?_
 exact s_rn (fu, (g1 + 1)) ⟨by first | omega | (dsimp only; omega), F5, by first | omega | (dsimp only; omega)⟩
 refine zC (zr (zq (zu (zd (zb (za ?_))))))
 refine s_as ?_
 refine zf (zd (zh (zm ?_)))
 cases F2
 exact zk [] [] Tryz.results69
def m_spec_l4Literals_AC (fuel : Nat) : Prop := ∀ (x1 : (List Form)) (r : Bool), zdr fuel x1 = some r → AC Tryz.prog 66 [.t (.sl (x1.map Form.row))] noOb (.t (.sc (.bool r))) noOb
theorem m_spec_l4Literals_ok (fuel : Nat) : m_spec_l4Literals_AC fuel := by
 intro x1 r F0
 unfold zdr at F0
 refine AC_i [.t (.sc (.bool r))] Tryz.func66 rfl Tryz.ntmps66 ?_
 intro C hC
 refine zb (za ?_)
 refine s_as ?_
 refine zf (zd (zb (zb (za ?_))))
 refine s_as ?_
 refine zf (zd (zl ?_))
 refine zbu (β := Int) [2, 3, 4, 5, 6, 7, 8, 9, 10, 11, 12, 13, 14, 15, 16, 17, 18, 19, 20, 21, 22, 23, 24, 25, 26, 27, 28, 29, 30, 31, 32, 33, 34, 35, 36, 37, 38, 39, 40, 41, 42, 43, 44, 45] [] [] (fun a => [(3, .t (.sc (.int .i64 a.2)))]) (fun a => []) (fun a => a.1 ≤ fuel ∧ za9 a.1 x1 a.2 = some r) (fuel, 0) ⟨Nat.le_refl _, F0⟩ ?_
 clear F0
 rintro ⟨fu, g1⟩ ⟨hl2, F1⟩
 dsimp only at hl2 F1 ⊢
 obtain _ | fu := fu
 · rw [za9] at F1; cases F1
 rw [za9] at F1
 refine zb (zb (za ?_))
 refine s_mv ?_
 refine s_mv ?_
 refine zD yU25 ?_
 refine s_lt ?_
 refine s_mv ?_
 refine zp _ 8 F1 ?_ ?_ <;> intro C3 F2
 refine s_mv ?_
 refine s_lt ?_
 refine zz ?_
 refine zf (zd ?_)
 refine zo F2 ?_ ?_ <;> intro C4 F3
 refine zi (zd (zb (zl (zb ?_))))
 refine zW yMix (by kernel_rfl) ?_
 refine s_mv ?_
 refine s_mv ?_
 obtain ⟨v5, V5, F4⟩ := zc F3
 refine z7 Form.row V5 (Form.row_eq _) yE25 ?_
 refine za1 yA27 yS27 ?_
 obtain ⟨v6, V6, F5⟩ := zc F4
 refine zx [] (m_spec_l3Is_ok fu _ _ V6) ?_
 refine zby ?_
 refine s_mv ?_
 refine zp _ 20 F5 ?_ ?_ <;> intro C7 F6
 iterate 6 refine r_no rfl ?_
 refine zz ?_
 refine s_mv ?_
 iterate 6 refine r_no rfl ?_
 refine zz ?_
 refine s_mv ?_
 iterate 8 refine r_no rfl ?_
 refine zz ?_
 refine zaA (by kernel_rfl) ?_
 refine zd (zM rfl (zb (za ?_)))
 refine s_as ?_
 refine zf (zd (zh (zj (zg (zw (zj (zg (zm ?_))))))))
 cases F6
 exact zk [] [] Tryz.results66
 refine s_mv ?_
 refine s_mv ?_
 obtain ⟨v8, V8, F7⟩ := zc F6
 refine z7 Form.row V8 (Form.row_eq _) yE25 ?_
 refine s_fa zbQ ?_
 refine zv yA9 ?_
 refine zf1 ?_
 refine zy ?_
 refine s_mv ?_
 refine zp _ 28 F7 ?_ ?_ <;> intro C9 F8
 iterate 6 refine r_no rfl ?_
 refine zz ?_
 refine s_mv ?_
 iterate 8 refine r_no rfl ?_
 refine zz ?_
 refine zaA (by kernel_rfl) ?_
 refine zd (zM rfl (zb (za ?_)))
 refine s_as ?_
 refine zf (zd (zh (zj (zg (zw (zj (zg (zm ?_))))))))
 cases F8
 exact zk [] [] Tryz.results66
 refine s_mv ?_
 refine s_mv ?_
 obtain ⟨v10, V10, F9⟩ := zc F8
 refine z7 Form.row V10 (Form.row_eq _) yE25 ?_
 refine s_fa zbQ ?_
 refine zv yA9 ?_
 refine zf1 ?_
 refine zy ?_
 refine s_mv ?_
 refine zp _ 36 F9 ?_ ?_ <;> intro C11 F10
 iterate 8 refine r_no rfl ?_
 refine zz ?_
 refine zaA (by kernel_rfl) ?_
 refine zd (zM rfl (zb (za ?_)))
 refine s_as ?_
 refine zf (zd (zh (zj (zg (zw (zj (zg (zm ?_))))))))
 cases F10
 exact zk [] [] Tryz.results66
 refine s_mv ?_
 refine s_mv ?_
 obtain ⟨v12, V12, F11⟩ := zc F10
 refine s_sl01 Form.row (fun y => Form.row_len y) V12 yU25 yE25 ?_
 refine s_mv ?_
 refine s_mv ?_
 obtain ⟨v13, V13, F12⟩ := zc F11
 refine z7 Form.row V13 (Form.row_eq _) yE25 ?_
 refine za1 yA27 yS27 ?_
 obtain ⟨v14, V14, F13⟩ := zc F12
 refine zx [] (zfY fu _ _ _ V14) ?_
 refine zy ?_
 refine zaA (by kernel_rfl) ?_
 refine zd ?_
 refine zo F13 ?_ ?_ <;> intro C15 F14
 refine zb (za ?_)
 refine s_as ?_
 refine zf (zd (zh (zj (zg (zw (zj (zg (zm ?_))))))))
 cases F14
 exact zk [] [] Tryz.results66
 refine zi (zX (zd (za ?_)))
 refine s_mv ?_
 refine zQ rfl ?_
 refine s_as ?_
 refine zf ?_
 exact s_rn (fu, (w64 (g1 + 1))) ⟨by first | omega | (dsimp only; omega), F14⟩
 refine zC (zr (zq (zu (zd (zb (za ?_))))))
 refine s_mv ?_
 refine zD yU25 ?_
 refine s_lt ?_
 refine s_as ?_
 refine zf (zd (zh (zm ?_)))
 cases F3
 exact zk [] [] Tryz.results66
 refine r_no rfl (r_no rfl ?_)
 refine zy ?_
 refine zf (zd (zbn rfl (zC (zr (zq (zu (zd (zb (za ?_)))))))))
 refine s_mv ?_
 refine zD yU25 ?_
 refine s_lt ?_
 refine s_as ?_
 refine zf (zd (zh (zm ?_)))
 cases F2
 exact zk [] [] Tryz.results66
def m_spec_l4Dots_AC (fuel : Nat) : Prop := ∀ (x1 : Form) (r : Bool), zcm fuel x1 = some r → AC Tryz.prog 101 [.ag [.t (.sc (.int .i64 x1.kind)), .t (.sc (.str x1.name)), .t (.sc (.int .i64 x1.n)), .t (.sl (x1.scopes.map rI)), .t (.sl (x1.kids.map Form.row))]] noOb (.t (.sc (.bool r))) noOb
theorem zcE (fuel : Nat) : m_spec_l4Dots_AC fuel := by
 intro x1 r F0
 unfold zcm at F0
 refine AC_i [.t (.sc (.bool r))] Tryz.func101 rfl Tryz.ntmps101 ?_
 intro C hC
 refine zb (za ?_)
 refine zbz ?_
 refine s_as ?_
 refine zf (zd (zb (za ?_)))
 refine s_fa zdF ?_
 refine zv yA3 ?_
 refine s_eq ?_
 refine s_mv ?_
 refine zp _ 6 F0 ?_ ?_ <;> intro C1 F1
 refine s_fa zbQ ?_
 refine zv yA9 ?_
 refine zf1 ?_
 refine zz ?_
 refine s_as ?_
 refine zf (zd (zh (zm ?_)))
 cases F1
 exact zk [] [] Tryz.results101
 iterate 3 refine r_no rfl ?_
 refine zy ?_
 refine s_as ?_
 refine zf (zd (zh (zm ?_)))
 cases F1
 exact zk [] [] Tryz.results101
def zeD (fuel : Nat) : Prop := ∀ (x1 : Form) (r : Bool), zdj fuel x1 = some r → AC Tryz.prog 67 [.ag [.t (.sc (.int .i64 x1.kind)), .t (.sc (.str x1.name)), .t (.sc (.int .i64 x1.n)), .t (.sl (x1.scopes.map rI)), .t (.sl (x1.kids.map Form.row))]] noOb (.t (.sc (.bool r))) noOb
theorem m_spec_l4Shape_st (fu : Nat) (ih_m_spec_l4Shape : ∀ k, k ≤ fu → zeD k) : zeD (fu + 1) := by
 intro x1 r F0
 rw [zdj] at F0
 refine AC_i [.t (.sc (.bool r))] Tryz.func67 rfl Tryz.ntmps67 ?_
 intro C hC
 refine zb (za ?_)
 refine zbz ?_
 refine s_as ?_
 refine zf (zd (zb (zb (za ?_))))
 refine zI yA27 yS27 ?_
 obtain ⟨v1, V1, F1⟩ := zc F0
 refine zx [] (zcE fu _ _ V1) ?_
 refine zf (zd ?_)
 refine zo F1 ?_ ?_ <;> intro C2 F2
 refine zb (za ?_)
 refine s_as ?_
 refine zf (zd (zh (zg (zm ?_))))
 cases F2
 exact zk [] [] Tryz.results67
 refine zi (zd (zb (za ?_)))
 refine s_as ?_
 refine zf (zd (zb (zb (za ?_))))
 refine s_as ?_
 refine zf (zd (zl ?_))
 refine zbu (β := Int × Int) [2, 3, 4, 7, 8, 9, 10, 11, 12, 13, 14, 15, 16, 17, 18, 19, 20, 21, 22, 23, 24, 25, 26, 27, 28, 29, 30, 31, 32, 33, 34, 35, 36, 37, 38, 39] [] [] (fun a => [(3, .t (.sc (.int .i64 a.2.1))), (4, .t (.sc (.int .i64 a.2.2)))]) (fun a => []) (fun a => a.1 ≤ fu ∧ zbv a.1 x1 a.2.1 a.2.2 = some r ∧ 0 ≤ a.2.2) (fu, 0, 0) ⟨Nat.le_refl _, F2, by simp⟩ ?_
 clear F2
 rintro ⟨fu, g3, g4⟩ ⟨hl5, F3, hn_g4⟩
 dsimp only at hl5 F3 hn_g4 ⊢
 obtain _ | fu := fu
 · rw [zbv] at F3; cases F3
 rw [zbv] at F3
 refine zb (zb (za ?_))
 refine s_mv ?_
 refine s_fa zR ?_
 refine zv yA25 ?_
 refine zD yU25 ?_
 refine s_lt ?_
 refine zf (zd ?_)
 refine zo F3 ?_ ?_ <;> intro C6 F4
 refine zT 9 (fun B7 => ?_)
 refine zi (zd (zb (zl (zb (zb (za ?_))))))
 refine s_fa zR ?_
 refine zv yA25 ?_
 refine s_mv ?_
 obtain ⟨v8, V8, F5⟩ := zc F4
 refine z7 Form.row V8 (Form.row_eq _) yE25 ?_
 refine za1 yA27 yS27 ?_
 obtain ⟨v9, V9, F6⟩ := zc F5
 refine zx [] (zcE fu _ _ V9) ?_
 refine zf (zd ?_)
 refine zo F6 ?_ ?_ <;> intro C10 F7
 refine zb (za ?_)
 refine s_mv ?_
 refine zQ rfl ?_
 refine s_as ?_
 refine zf (zd (zb (zb (za ?_))))
 refine s_mv ?_
 refine s_eq ?_
 refine s_mv ?_
 refine zp _ 24 F7 ?_ ?_ <;> intro C11 F8
 iterate 7 refine r_no rfl ?_
 refine zz ?_
 refine zf (zd (zM rfl (zb (za ?_))))
 refine s_as ?_
 refine zf (zd (zh (zg (zg (zj (zg (zw (zj (zg (zm ?_))))))))))
 cases F8
 exact zk [] [] Tryz.results67
 refine s_fa zR ?_
 refine zv yA25 ?_
 refine s_mv ?_
 refine zgS rfl ?_
 obtain ⟨v12, V12, F9⟩ := zc F8
 refine z7 Form.row V12 (Form.row_eq _) yE25 ?_
 refine za1 yA27 yS27 ?_
 obtain ⟨v13, V13, F10⟩ := zc F9
 refine zx [] (zcE fu _ _ V13) ?_
 refine zy ?_
 refine zf (zd ?_)
 refine zo F10 ?_ ?_ <;> intro C14 F11
 refine zb (za ?_)
 refine s_as ?_
 refine zf (zd (zh (zg (zg (zj (zg (zw (zj (zg (zm ?_))))))))))
 cases F11
 exact zk [] [] Tryz.results67
 refine zi (zd (zC (zr (zu (zd (za ?_))))))
 refine s_mv ?_
 refine zQ (zbg C6 B7 hn_g4) ?_
 refine s_as ?_
 refine zf ?_
 exact s_rn (fu, (w64 (g3 + 1)), (g4 + 1)) ⟨by first | omega | (dsimp only; omega), F11, by first | omega | (dsimp only; omega)⟩
 refine zi (zd (zb (za ?_)))
 refine s_fa zR ?_
 refine zv yA25 ?_
 refine s_mv ?_
 obtain ⟨v15, V15, F8⟩ := zc F7
 refine z7 Form.row V15 (Form.row_eq _) yE25 ?_
 refine za1 yA27 yS27 ?_
 obtain ⟨v16, V16, F9⟩ := zc F8
 refine zx [] (ih_m_spec_l4Shape fu (by omega) _ _ V16) ?_
 refine zby ?_
 refine zf (zd ?_)
 refine zo F9 ?_ ?_ <;> intro C17 F10
 refine zb (za ?_)
 refine s_as ?_
 refine zf (zd (zh (zj (zg (zw (zj (zg (zm ?_))))))))
 cases F10
 exact zk [] [] Tryz.results67
 refine zi (zX (zd (za ?_)))
 refine s_mv ?_
 refine zQ (zbg C6 B7 hn_g4) ?_
 refine s_as ?_
 refine zf ?_
 exact s_rn (fu, g3, (g4 + 1)) ⟨by first | omega | (dsimp only; omega), F10, by first | omega | (dsimp only; omega)⟩
 refine zC (zr (zq (zu (zd (zb (za ?_))))))
 refine s_mv ?_
 refine s_le ?_
 refine s_as ?_
 refine zf (zd (zh (zm ?_)))
 cases F4
 exact zk [] [] Tryz.results67
theorem m_spec_l4Shape_all (fuel : Nat) : zeD fuel := by
 induction fuel using Nat.strongRecOn with
 | _ N ih =>
   cases N with
   | zero => exact (by intro x1 r h; rw [zdj] at h; cases h)
   | succ fu => exact m_spec_l4Shape_st fu (fun k hk => (ih k (by omega)))
theorem m_spec_l4Shape_ok (fuel : Nat) : zeD fuel := (m_spec_l4Shape_all fuel)
def m_spec_l4Var_AC (fuel : Nat) : Prop := ∀ (x1 : Form) (x2 : (List Form)) (r : Bool), zfk fuel x1 x2 = some r → AC Tryz.prog 117 [.ag [.t (.sc (.int .i64 x1.kind)), .t (.sc (.str x1.name)), .t (.sc (.int .i64 x1.n)), .t (.sl (x1.scopes.map rI)), .t (.sl (x1.kids.map Form.row))], .t (.sl (x2.map Form.row))] noOb (.t (.sc (.bool r))) noOb
theorem m_spec_l4Var_ok (fuel : Nat) : m_spec_l4Var_AC fuel := by
 intro x1 x2 r F0
 unfold zfk at F0
 refine AC_i [.t (.sc (.bool r))] Tryz.func117 rfl Tryz.ntmps117 ?_
 intro C hC
 refine zb (za ?_)
 refine zbz ?_
 refine s_as ?_
 refine zf (zd (zb (za ?_)))
 refine s_fa zdF ?_
 refine zv yA3 ?_
 refine s_eq ?_
 refine s_mv ?_
 refine zp _ 8 F0 ?_ ?_ <;> intro C1 F1
 refine s_fa zbQ ?_
 refine zv yA9 ?_
 refine s_neS ?_
 refine zz ?_
 refine s_mv ?_
 refine zp _ 13 F1 ?_ ?_ <;> intro C2 F2
 refine s_fa zbQ ?_
 refine zv yA9 ?_
 refine s_neS ?_
 refine zz ?_
 refine s_mv ?_
 refine zp _ 18 F2 ?_ ?_ <;> intro C3 F3
 refine s_mv ?_
 refine zI yA27 yS27 ?_
 obtain ⟨v4, V4, F4⟩ := zc F3
 refine zx [] (zfY fuel _ _ _ V4) ?_
 refine zby ?_
 refine zz ?_
 refine s_as ?_
 refine zf (zd (zh (zm ?_)))
 cases F4
 exact zk [] [] Tryz.results117
 iterate 4 refine r_no rfl ?_
 refine zy ?_
 refine s_as ?_
 refine zf (zd (zh (zm ?_)))
 cases F3
 exact zk [] [] Tryz.results117
 iterate 3 refine r_no rfl ?_
 refine zy ?_
 refine s_mv ?_
 iterate 4 refine r_no rfl ?_
 refine zy ?_
 refine s_as ?_
 refine zf (zd (zh (zm ?_)))
 cases F2
 exact zk [] [] Tryz.results117
 iterate 3 refine r_no rfl ?_
 refine zy ?_
 refine s_mv ?_
 iterate 3 refine r_no rfl ?_
 refine zy ?_
 refine s_mv ?_
 iterate 4 refine r_no rfl ?_
 refine zy ?_
 refine s_as ?_
 refine zf (zd (zh (zm ?_)))
 cases F1
 exact zk [] [] Tryz.results117
def ze1 (fuel : Nat) : Prop := ∀ (x1 : (List Form)) (x2 : Form) (x3 : (List Form)) (r : (List Form)), zcK fuel x1 x2 x3 = some r → AC Tryz.prog 68 [.ar 9300, .ag [.t (.sc (.int .i64 x2.kind)), .t (.sc (.str x2.name)), .t (.sc (.int .i64 x2.n)), .t (.sl (x2.scopes.map rI)), .t (.sl (x2.kids.map Form.row))], .t (.sl (x3.map Form.row))] (objs [(9300, .arr (x1.map Form.row) 27 true)]) (.ar 9200) (objs [(9300, .dead), (9200, .arr (r.map Form.row) 27 true)])
theorem m_spec_l4Vars_st (fu : Nat) (ih_m_spec_l4Vars : ∀ k, k ≤ fu → ze1 k) : ze1 (fu + 1) := by
 intro x1 x2 x3 r F0
 rw [zcK] at F0
 refine AC_i [.ar 9200] Tryz.func68 rfl Tryz.ntmps68 ?_
 intro C hC
 refine zb (za ?_)
 refine zbz ?_
 refine s_as ?_
 refine zf (zd (zb (zb (za ?_))))
 refine zI yA27 yS27 ?_
 refine s_mv ?_
 obtain ⟨v1, V1, F1⟩ := zc F0
 refine zx [] (m_spec_l4Var_ok fu _ _ _ V1) ?_
 refine zf (zd ?_)
 refine zo F1 ?_ ?_ <;> intro C2 F2
 refine za ?_
 refine s_mv ?_
 refine zI yA27 yS27 ?_
 refine s_bs Form.row [x2] yP25 yR27 ?_
 obtain ⟨hk3, F3⟩ := zai F2
 refine zfo Form.row (fun y => Form.row_len y) hk3 yP25 ?_
 refine s_as ?_
 refine zf (zd (zb (zb (za ?_))))
 refine s_as ?_
 refine zf (zd (zl ?_))
 refine zcy 0 14 5020 (by conv => lhs; whnf) (by conv => lhs; whnf) rfl ?_
 refine zax [0, 7, 15, 16, 17, 18, 19, 20, 21, 22, 23, 24, 25, 26, 27, 28, 29] [5020] [12029] [5020] (fun a : Nat × (List Form) × Int => a.1) (fun a : Nat × (List Form) × Int => [(0, .ar 5020), (7, .t (.sc (.int .i64 a.2.2)))]) (fun a : Nat × (List Form) × Int => [(5020, .arr (a.2.1.map Form.row) 27 true)]) (fun a : Nat × (List Form) × Int => a.1 ≤ fu ∧ zaL a.1 x2 x3 a.2.1 a.2.2 = some r ∧ 0 ≤ a.2.2) (fu, (x1 ++ [x2]), 0) ⟨Nat.le_refl _, F3, by simp⟩ (by rfl) (by rfl) (fun _ => rfl) (zL (by conv => lhs; whnf) (by rfl) (zL (by conv => lhs; whnf) (by rfl) zbx)) (zP (by conv => lhs; whnf) (by rfl) zbm) (zcx hC rfl) (by repeat (first | exact zak rfl | refine zaG rfl ?_ | refine zZ rfl ?_)) (by repeat (first | exact za3 | exact zas rfl | refine zaH rfl ?_ | refine z6 rfl ?_)) ?_
 clear F3
 rintro ⟨fu, g4, g5⟩ ⟨hl6, F4, hn_g5⟩
 dsimp only at hl6 F4 hn_g5 ⊢
 obtain _ | fu := fu
 · rw [zaL] at F4; cases F4
 rw [zaL] at F4
 refine zb (zb (za ?_))
 refine s_mv ?_
 refine s_fa zR ?_
 refine zv yA25 ?_
 refine zD yU25 ?_
 refine s_lt ?_
 refine zf (zd ?_)
 refine zo F4 ?_ ?_ <;> intro C7 F5
 refine zT 17 (fun B8 => ?_)
 refine zi (zd (zb (zl (za ?_))))
 refine s_mv ?_
 refine s_fa zR ?_
 refine zv yA25 ?_
 refine s_mv ?_
 obtain ⟨v9, V9, F6⟩ := zc F5
 refine z7 Form.row V9 (Form.row_eq _) yE25 ?_
 refine za1 yA27 yS27 ?_
 refine s_mv ?_
 obtain ⟨v10, V10, F7⟩ := zc F6
 refine zN [(9300, 5020), (9200, 12029)] [] _ _ (ih_m_spec_l4Vars fu (by omega) _ _ _ _ V10) ?_
 refine s_as ?_
 refine zf (zX (zd (za ?_)))
 refine s_mv ?_
 refine zQ (zbg C7 B8 hn_g5) ?_
 refine s_as ?_
 refine zf ?_
 exact s_rn (fu, v10, (g5 + 1)) ⟨by first | omega | (dsimp only; omega), F7, by first | omega | (dsimp only; omega)⟩ [(5020, 12029)]
 refine zC (zr (zq (zu (zd (zb (za ?_))))))
 refine s_mv ?_
 refine s_as ?_
 refine zf (zd ?_)
 refine zcy 6 5020 9200 (by conv => lhs; whnf) (by conv => lhs; whnf) rfl ?_
 refine zh (zm ?_)
 cases F5
 exact zk _ [] Tryz.results68
 refine zi (zd (zb (zb (za ?_))))
 refine s_as ?_
 refine zf (zd (zl ?_))
 refine zcy 0 9300 5040 (by conv => lhs; whnf) (by conv => lhs; whnf) rfl ?_
 refine zax [0, 7, 15, 16, 17, 18, 19, 20, 21, 22, 23, 24, 25, 26, 27, 28, 29] [5040] [12029] [5040] (fun a : Nat × (List Form) × Int => a.1) (fun a : Nat × (List Form) × Int => [(0, .ar 5040), (7, .t (.sc (.int .i64 a.2.2)))]) (fun a : Nat × (List Form) × Int => [(5040, .arr (a.2.1.map Form.row) 27 true)]) (fun a : Nat × (List Form) × Int => a.1 ≤ fu ∧ zaL a.1 x2 x3 a.2.1 a.2.2 = some r ∧ 0 ≤ a.2.2) (fu, x1, 0) ⟨Nat.le_refl _, F2, by simp⟩ (by rfl) (by rfl) (fun _ => rfl) (zL (by conv => lhs; whnf) (by rfl) (zL (by conv => lhs; whnf) (by rfl) zbx)) (zP (by conv => lhs; whnf) (by rfl) zbm) (zcx hC rfl) (by repeat (first | exact zak rfl | refine zaG rfl ?_ | refine zZ rfl ?_)) (by repeat (first | exact za3 | exact zas rfl | refine zaH rfl ?_ | refine z6 rfl ?_)) ?_
 clear F2
 rintro ⟨fu, g11, g12⟩ ⟨hl13, F3, hn_g12⟩
 dsimp only at hl13 F3 hn_g12 ⊢
 obtain _ | fu := fu
 · rw [zaL] at F3; cases F3
 rw [zaL] at F3
 refine zb (zb (za ?_))
 refine s_mv ?_
 refine s_fa zR ?_
 refine zv yA25 ?_
 refine zD yU25 ?_
 refine s_lt ?_
 refine zf (zd ?_)
 refine zo F3 ?_ ?_ <;> intro C14 F4
 refine zT 17 (fun B15 => ?_)
 refine zi (zd (zb (zl (za ?_))))
 refine s_mv ?_
 refine s_fa zR ?_
 refine zv yA25 ?_
 refine s_mv ?_
 obtain ⟨v16, V16, F5⟩ := zc F4
 refine z7 Form.row V16 (Form.row_eq _) yE25 ?_
 refine za1 yA27 yS27 ?_
 refine s_mv ?_
 obtain ⟨v17, V17, F6⟩ := zc F5
 refine zN [(9300, 5040), (9200, 12029)] [] _ _ (ih_m_spec_l4Vars fu (by omega) _ _ _ _ V17) ?_
 refine s_as ?_
 refine zf (zX (zd (za ?_)))
 refine s_mv ?_
 refine zQ (zbg C14 B15 hn_g12) ?_
 refine s_as ?_
 refine zf ?_
 exact s_rn (fu, v17, (g12 + 1)) ⟨by first | omega | (dsimp only; omega), F6, by first | omega | (dsimp only; omega)⟩ [(5040, 12029)]
 refine zC (zr (zq (zu (zd (zb (za ?_))))))
 refine s_mv ?_
 refine s_as ?_
 refine zf (zd ?_)
 refine zcy 6 5040 9200 (by conv => lhs; whnf) (by conv => lhs; whnf) rfl ?_
 refine zh (zm ?_)
 cases F4
 exact zk _ [] Tryz.results68
end Go.Abs
