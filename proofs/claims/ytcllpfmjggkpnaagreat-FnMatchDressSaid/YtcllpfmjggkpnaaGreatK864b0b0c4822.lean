/- A part of the proof: what the functions that the law calls answer, as pure values. -/
import Derived.Test.YtcllpfmjggkpnaaGreatK73f09199af94
import Derived.Test.YtcllpfmjggkpnaaGreatK227875200f03
import Derived.Test.YtcllpfmjggkpnaaGreatKa15390ddf9b4
import Derived.Test.YtcllpfmjggkpnaaGreatK98a493ba4651
set_option linter.unusedSimpArgs false
set_option linter.unusedVariables false
set_option maxRecDepth 100000
set_option maxHeartbeats 4000000
namespace Go.Abs
open Go.Proofs
def m_impl_literalsOk_AC (fuel : Nat) : Prop := ∀ (x1 : (List Form)) (r : Bool), zdy fuel x1 = some r → AC Tryz.prog 53 [.t (.sl (x1.map Form.row))] noOb (.t (.sc (.bool r))) noOb
theorem m_impl_literalsOk_ok (fuel : Nat) : m_impl_literalsOk_AC fuel := by
 intro x1 r F0
 unfold zdy at F0
 refine AC_i [.t (.sc (.bool r))] Tryz.func53 rfl Tryz.ntmps53 ?_
 intro C hC
 refine zb (za ?_)
 refine s_as ?_
 refine zf (zd (zb (zb (za ?_))))
 refine s_mv ?_
 refine zD yU25 ?_
 refine s_mv ?_
 refine zf (zd (zl ?_))
 refine zbu (β := Int) [2, 3, 4, 7, 8, 9, 10, 11, 12, 13, 14, 15, 16, 17, 18, 19, 20, 21, 22, 23, 24, 25, 26, 27, 28, 29, 30, 31, 32] [] [4] (fun a => [(7, .t (.sc (.int .i64 a.2)))]) (fun a => []) (fun a => a.1 ≤ fuel ∧ zbe a.1 x1 a.2 = some r ∧ 0 ≤ a.2) (fuel, 0) ⟨Nat.le_refl _, F0, by simp⟩ ?_
 clear F0
 rintro ⟨fu, g1⟩ ⟨hl2, F1, hn_g1⟩
 dsimp only at hl2 F1 hn_g1 ⊢
 obtain _ | fu := fu
 · rw [zbe] at F1; cases F1
 rw [zbe] at F1
 refine zb (za ?_)
 refine s_lt ?_
 refine zf (zd (zb ?_))
 refine zo F1 ?_ ?_ <;> intro C3 F2
 refine zT 0 (fun B4 => ?_)
 refine zi (zd (zb (zl (zb (za ?_)))))
 refine s_mv ?_
 obtain ⟨v5, V5, F3⟩ := zc F2
 refine z7 Form.row V5 (Form.row_eq _) yE25 ?_
 refine za1 yA27 yS27 ?_
 refine zY yZ27 ?_
 refine s_as ?_
 refine zap yS27 ?_
 refine zf (zd (zb ?_))
 refine zW yMix (by kernel_rfl) ?_
 refine zI yA27 yS27 ?_
 obtain ⟨v6, V6, F4⟩ := zc F3
 refine zx [] (zeb fu _ _ V6) ?_
 refine zby ?_
 refine s_mv ?_
 refine zp _ 15 F4 ?_ ?_ <;> intro C7 F5
 iterate 3 refine r_no rfl ?_
 refine zz ?_
 refine s_mv ?_
 iterate 3 refine r_no rfl ?_
 refine zz ?_
 refine s_mv ?_
 iterate 5 refine r_no rfl ?_
 refine zz ?_
 refine zaA (by kernel_rfl) ?_
 refine zd (zM rfl (zb (za ?_)))
 refine s_as ?_
 refine zf (zd (zh (zj (zg (zw (zj (zg (zm ?_))))))))
 cases F5
 exact zk [] [] Tryz.results53
 refine s_fa zbQ ?_
 refine zv yA9 ?_
 refine zf1 ?_
 refine zy ?_
 refine s_mv ?_
 refine zp _ 20 F5 ?_ ?_ <;> intro C8 F6
 iterate 3 refine r_no rfl ?_
 refine zz ?_
 refine s_mv ?_
 iterate 5 refine r_no rfl ?_
 refine zz ?_
 refine zaA (by kernel_rfl) ?_
 refine zd (zM rfl (zb (za ?_)))
 refine s_as ?_
 refine zf (zd (zh (zj (zg (zw (zj (zg (zm ?_))))))))
 cases F6
 exact zk [] [] Tryz.results53
 refine s_fa zbQ ?_
 refine zv yA9 ?_
 refine zf1 ?_
 refine zy ?_
 refine s_mv ?_
 refine zp _ 25 F6 ?_ ?_ <;> intro C9 F7
 iterate 5 refine r_no rfl ?_
 refine zz ?_
 refine zaA (by kernel_rfl) ?_
 refine zd (zM rfl (zb (za ?_)))
 refine s_as ?_
 refine zf (zd (zh (zj (zg (zw (zj (zg (zm ?_))))))))
 cases F7
 exact zk [] [] Tryz.results53
 refine s_mv ?_
 refine s_mv ?_
 obtain ⟨v10, V10, F8⟩ := zc F7
 refine s_sl01 Form.row (fun y => Form.row_len y) V10 yU25 yE25 ?_
 refine zI yA27 yS27 ?_
 obtain ⟨v11, V11, F9⟩ := zc F8
 refine zx [] (zf0 fu _ _ _ V11) ?_
 refine zy ?_
 refine zaA (by kernel_rfl) ?_
 refine zd ?_
 refine zo F9 ?_ ?_ <;> intro C12 F10
 refine zb (za ?_)
 refine s_as ?_
 refine zf (zd (zh (zj (zg (zw (zj (zg (zm ?_))))))))
 cases F10
 exact zk [] [] Tryz.results53
 refine zi (zX (zd (za ?_)))
 refine zQ (zbg C3 B4 hn_g1) ?_
 refine s_mv ?_
 refine zf ?_
 exact s_rn (fu, (g1 + 1)) ⟨by first | omega | (dsimp only; omega), F10, by first | omega | (dsimp only; omega)⟩
 refine zC (zr (zq (zu (zd (zb (za ?_))))))
 refine s_mv ?_
 refine zD yU25 ?_
 refine s_le ?_
 refine s_as ?_
 refine zf (zd (zh (zm ?_)))
 cases F2
 exact zk [] [] Tryz.results53
def m_impl_named_AC (fuel : Nat) : Prop := ∀ (x1 : Form) (x2 : ByteArray) (r : Bool), zdf fuel x1 x2 = some r → AC Tryz.prog 54 [.ag [.t (.sc (.int .i64 x1.kind)), .t (.sc (.str x1.name)), .t (.sc (.int .i64 x1.n)), .t (.sl (x1.scopes.map rI)), .t (.sl (x1.kids.map Form.row))], .t (.sc (.str x2))] noOb (.t (.sc (.bool r))) noOb
theorem zdv (fuel : Nat) : m_impl_named_AC fuel := by
 intro x1 x2 r F0
 unfold zdf at F0
 refine AC_i [.t (.sc (.bool r))] Tryz.func54 rfl Tryz.ntmps54 ?_
 intro C hC
 refine zb (za ?_)
 refine zbz ?_
 refine s_as ?_
 refine zf (zd (zb (za ?_)))
 refine s_fa zdF ?_
 refine zv yA3 ?_
 refine s_eq ?_
 refine s_mv ?_
 refine zp _ 8 F0 ?_ ?_ <;> intro C1 F1
 refine s_fa zbQ ?_
 refine zv yA9 ?_
 refine s_mv ?_
 refine zf1 ?_
 refine zz ?_
 refine s_as ?_
 refine zf (zd (zh (zm ?_)))
 cases F1
 exact zk [] [] Tryz.results54
 iterate 4 refine r_no rfl ?_
 refine zy ?_
 refine s_as ?_
 refine zf (zd (zh (zm ?_)))
 cases F1
 exact zk [] [] Tryz.results54
def m_impl_dotsAt_1_AC (fuel : Nat) : Prop := ∀ (x1 : Form) (r : Bool), zc0 fuel x1 = some r → AC Tryz.prog 114 [.ag [.t (.sc (.int .i64 x1.kind)), .t (.sc (.str x1.name)), .t (.sc (.int .i64 x1.n)), .t (.sl (x1.scopes.map rI)), .t (.sl (x1.kids.map Form.row))]] noOb (.t (.sc (.bool r))) noOb
theorem m_impl_dotsAt_1_ok (fuel : Nat) : m_impl_dotsAt_1_AC fuel := by
 intro x1 r F0
 unfold zc0 at F0
 refine AC_i [.t (.sc (.bool r))] Tryz.func114 rfl Tryz.ntmps114 ?_
 intro C hC
 refine zb (za ?_)
 refine zbz ?_
 refine s_as ?_
 refine zf (zd (zb (za ?_)))
 refine zI yA27 yS27 ?_
 obtain ⟨v1, V1, F1⟩ := zc F0
 refine zx [] (zdv fuel _ _ _ V1) ?_
 refine s_as ?_
 refine zf (zd (zh (zm ?_)))
 cases F1
 exact zk [] [] Tryz.results114
def zfh (fuel : Nat) : Prop := ∀ (x1 : (List Form)) (r : Int), zaR fuel x1 = some r → AC Tryz.prog 113 [.t (.sl (x1.map Form.row)), .fn 114 []] noOb (.t (.sc (.int .i64 r))) noOb
theorem zfg (fuel : Nat) : zfh fuel := by
 intro x1 r F0
 unfold zaR at F0
 refine AC_i [.t (.sc (.int .i64 r))] Tryz.func113 rfl Tryz.ntmps113 ?_
 intro C hC
 refine zb (za ?_)
 refine s_as ?_
 refine zf (zd (zb (zb (za ?_))))
 refine s_mv ?_
 refine zD yU25 ?_
 refine s_mv ?_
 refine zf (zd (zl ?_))
 refine zbu (β := Int) [4, 5, 8, 9, 10, 11, 12, 13, 14, 15, 16, 17, 18] [] [] (fun a => [(8, .t (.sc (.int .i64 a.2)))]) (fun a => []) (fun a => a.1 ≤ fuel ∧ zE a.1 x1 a.2 = some r ∧ 0 ≤ a.2) (fuel, 0) ⟨Nat.le_refl _, F0, by simp⟩ ?_
 clear F0
 rintro ⟨fu, g1⟩ ⟨hl2, F1, hn_g1⟩
 dsimp only at hl2 F1 hn_g1 ⊢
 obtain _ | fu := fu
 · rw [zE] at F1; cases F1
 rw [zE] at F1
 refine zb (za ?_)
 refine s_lt ?_
 refine zf (zd (zb ?_))
 refine zo F1 ?_ ?_ <;> intro C3 F2
 refine zT 0 (fun B4 => ?_)
 refine zi (zd (zb (zl (zb (za ?_)))))
 refine s_mv ?_
 refine s_as ?_
 refine zf (zd (zb (za ?_)))
 iterate 3 refine s_mv ?_
 obtain ⟨v5, V5, F3⟩ := zc F2
 refine z7 Form.row V5 (Form.row_eq _) yE25 ?_
 refine za1 yA27 yS27 ?_
 obtain ⟨v6, V6, F4⟩ := zc F3
 refine zx [] (m_impl_dotsAt_1_ok fu _ _ V6) ?_
 refine zf (zd ?_)
 refine zo F4 ?_ ?_ <;> intro C7 F5
 refine zb (za ?_)
 refine s_mv ?_
 refine s_as ?_
 refine zf (zd (zh (zj (zg (zw (zj (zg (zm ?_))))))))
 cases F5
 exact zk [] [] Tryz.results113
 refine zi (zX (zd (za ?_)))
 refine zQ (zbg C3 B4 hn_g1) ?_
 refine s_mv ?_
 refine zf ?_
 exact s_rn (fu, (g1 + 1)) ⟨by first | omega | (dsimp only; omega), F5, by first | omega | (dsimp only; omega)⟩
 refine zC (zr (zq (zu (zd (zb (za ?_))))))
 refine s_as ?_
 refine zf (zd (zh (zm ?_)))
 cases F2
 exact zk [] [] Tryz.results113
def m_impl_dotsAt_AC (fuel : Nat) : Prop := ∀ (x1 : (List Form)) (r : Int), zdO fuel x1 = some r → AC Tryz.prog 62 [.t (.sl (x1.map Form.row))] noOb (.t (.sc (.int .i64 r))) noOb
theorem m_impl_dotsAt_ok (fuel : Nat) : m_impl_dotsAt_AC fuel := by
 intro x1 r F0
 unfold zdO at F0
 refine AC_i [.t (.sc (.int .i64 r))] Tryz.func62 rfl Tryz.ntmps62 ?_
 intro C hC
 refine zb (za ?_)
 refine s_as ?_
 refine zf (zd (zb (za ?_)))
 refine s_mv ?_
 obtain ⟨v1, V1, F1⟩ := zc F0
 refine zx [] (zfg fuel _ _ V1) ?_
 refine s_as ?_
 refine zf (zd (zh (zm ?_)))
 cases F1
 exact zk [] [] Tryz.results62
def ze9 (fuel : Nat) : Prop := ∀ (x1 : Form) (x2 : Bool) (r : Bool), zdh fuel x1 x2 = some r → AC Tryz.prog 55 [.ag [.t (.sc (.int .i64 x1.kind)), .t (.sc (.str x1.name)), .t (.sc (.int .i64 x1.n)), .t (.sl (x1.scopes.map rI)), .t (.sl (x1.kids.map Form.row))], .t (.sc (.bool x2))] noOb (.t (.sc (.bool r))) noOb
theorem m_impl_dotsOk_st (fu : Nat) (ih_m_impl_dotsOk : ∀ k, k ≤ fu → ze9 k) : ze9 (fu + 1) := by
 intro x1 x2 r F0
 rw [zdh] at F0
 refine AC_i [.t (.sc (.bool r))] Tryz.func55 rfl Tryz.ntmps55 ?_
 intro C hC
 refine zb (za ?_)
 refine zbz ?_
 refine s_as ?_
 refine zf (zd (zb (zb (za ?_))))
 refine s_fa zR ?_
 refine zv yA25 ?_
 refine zD yU25 ?_
 refine s_mv ?_
 refine zf (zd (zl ?_))
 refine zbu (β := Int) [4, 5, 6, 10, 11, 12, 13, 14, 15, 16, 17, 18, 19, 20, 21, 22, 23, 24, 25, 26, 27, 28, 29, 30, 31, 32, 33, 34, 35, 36, 37, 38, 39, 40, 41, 42, 43] [] [6] (fun a => [(10, .t (.sc (.int .i64 a.2)))]) (fun a => []) (fun a => a.1 ≤ fu ∧ zbs a.1 x1 x2 a.2 = some r ∧ 0 ≤ a.2) (fu, 0) ⟨Nat.le_refl _, F0, by simp⟩ ?_
 clear F0
 rintro ⟨fu, g1⟩ ⟨hl2, F1, hn_g1⟩
 dsimp only at hl2 F1 hn_g1 ⊢
 obtain _ | fu := fu
 · rw [zbs] at F1; cases F1
 rw [zbs] at F1
 refine zb (za ?_)
 refine s_lt ?_
 refine zf (zd (zb ?_))
 refine zo F1 ?_ ?_ <;> intro C3 F2
 refine zT 8 (fun B4 => ?_)
 refine zi (zd (zb (zl (zb (za ?_)))))
 refine s_mv ?_
 obtain ⟨v5, V5, F3⟩ := zc F2
 refine z7 Form.row V5 (Form.row_eq _) yE25 ?_
 refine za1 yA27 yS27 ?_
 refine zY yZ27 ?_
 refine s_as ?_
 refine zap yS27 ?_
 refine zf (zd (zb (za ?_)))
 refine zI yA27 yS27 ?_
 obtain ⟨v6, V6, F4⟩ := zc F3
 refine zx [] (zdv fu _ _ _ V6) ?_
 refine zf (zd ?_)
 refine zo F4 ?_ ?_ <;> intro C7 F5
 refine zb (za ?_)
 refine s_mv ?_
 refine s_eq ?_
 refine s_mv ?_
 refine zp _ 19 F5 ?_ ?_ <;> intro C8 F6
 iterate 7 refine r_no rfl ?_
 refine zz ?_
 refine s_mv ?_
 iterate 9 refine r_no rfl ?_
 refine zz ?_
 refine zf (zd (zM rfl (zb (za ?_))))
 refine s_as ?_
 refine zf (zd (zh (zj (zg (zw (zj (zg (zm ?_))))))))
 cases F6
 exact zk [] [] Tryz.results55
 refine s_fa zR ?_
 refine zv yA25 ?_
 refine s_mv ?_
 refine zgS rfl ?_
 obtain ⟨v9, V9, F7⟩ := zc F6
 refine z7 Form.row V9 (Form.row_eq _) yE25 ?_
 refine za1 yA27 yS27 ?_
 obtain ⟨v10, V10, F8⟩ := zc F7
 refine zx [] (zdv fu _ _ _ V10) ?_
 refine zy ?_
 refine s_mv ?_
 refine zp _ 28 F8 ?_ ?_ <;> intro C11 F9
 iterate 9 refine r_no rfl ?_
 refine zz ?_
 refine zf (zd (zM rfl (zb (za ?_))))
 refine s_as ?_
 refine zf (zd (zh (zj (zg (zw (zj (zg (zm ?_))))))))
 cases F9
 exact zk [] [] Tryz.results55
 refine s_mv ?_
 refine s_mv ?_
 refine zp _ 30 F9 ?_ ?_ <;> intro C12 F10
 refine s_fa zR ?_
 refine zv yA25 ?_
 refine s_mv ?_
 obtain ⟨v13, V13, F11⟩ := zc F10
 refine s_sl01 Form.row (fun y => Form.row_len y) V13 yU25 yE25 ?_
 obtain ⟨v14, V14, F12⟩ := zc F11
 refine zx [] (m_impl_dotsAt_ok fu _ _ V14) ?_
 refine s_ge ?_
 refine zz ?_
 refine zy ?_
 refine zf (zd ?_)
 refine zo F12 ?_ ?_ <;> intro C15 F13
 refine zb (za ?_)
 refine s_as ?_
 refine zf (zd (zh (zj (zg (zw (zj (zg (zm ?_))))))))
 cases F13
 exact zk [] [] Tryz.results55
 refine zi (zX (zd (za ?_)))
 refine zQ (zbg C3 B4 hn_g1) ?_
 refine s_mv ?_
 refine zf ?_
 exact s_rn (fu, (g1 + 1)) ⟨by first | omega | (dsimp only; omega), F13, by first | omega | (dsimp only; omega)⟩
 iterate 6 refine r_no rfl ?_
 refine zy ?_
 refine zy ?_
 refine zf (zd (zbn rfl (zi (zX (zd (za ?_))))))
 refine zQ (zbg C3 B4 hn_g1) ?_
 refine s_mv ?_
 refine zf ?_
 exact s_rn (fu, (g1 + 1)) ⟨by first | omega | (dsimp only; omega), F10, by first | omega | (dsimp only; omega)⟩
 refine zb (za ?_)
 refine zI yA27 yS27 ?_
 refine s_mv ?_
 obtain ⟨v16, V16, F6⟩ := zc F5
 refine zx [] (ih_m_impl_dotsOk fu (by omega) _ _ _ V16) ?_
 refine zby ?_
 refine zf (zd ?_)
 refine zo F6 ?_ ?_ <;> intro C17 F7
 refine zb (za ?_)
 refine s_as ?_
 refine zf (zd (zh (zj (zg (zw (zj (zg (zm ?_))))))))
 cases F7
 exact zk [] [] Tryz.results55
 refine zi (zX (zd (za ?_)))
 refine zQ (zbg C3 B4 hn_g1) ?_
 refine s_mv ?_
 refine zf ?_
 exact s_rn (fu, (g1 + 1)) ⟨by first | omega | (dsimp only; omega), F7, by first | omega | (dsimp only; omega)⟩
 refine zC (zr (zq (zu (zd (zb (za ?_))))))
 refine s_as ?_
 refine zf (zd (zh (zm ?_)))
 cases F2
 exact zk [] [] Tryz.results55
theorem m_impl_dotsOk_all (fuel : Nat) : ze9 fuel := by
 induction fuel using Nat.strongRecOn with
 | _ N ih =>
   cases N with
   | zero => exact (by intro x1 x2 r h; rw [zdh] at h; cases h)
   | succ fu => exact m_impl_dotsOk_st fu (fun k hk => (ih k (by omega)))
theorem m_impl_dotsOk_ok (fuel : Nat) : ze9 fuel := (m_impl_dotsOk_all fuel)
def m_impl_isVar_AC (fuel : Nat) : Prop := ∀ (x1 : Form) (x2 : (List Form)) (r : Bool), zf6 fuel x1 x2 = some r → AC Tryz.prog 138 [.ag [.t (.sc (.int .i64 x1.kind)), .t (.sc (.str x1.name)), .t (.sc (.int .i64 x1.n)), .t (.sl (x1.scopes.map rI)), .t (.sl (x1.kids.map Form.row))], .t (.sl (x2.map Form.row))] noOb (.t (.sc (.bool r))) noOb
theorem m_impl_isVar_ok (fuel : Nat) : m_impl_isVar_AC fuel := by
 intro x1 x2 r F0
 unfold zf6 at F0
 refine AC_i [.t (.sc (.bool r))] Tryz.func138 rfl Tryz.ntmps138 ?_
 intro C hC
 refine zb (za ?_)
 refine zbz ?_
 refine s_as ?_
 refine zf (zd (zb (za ?_)))
 refine s_fa zdF ?_
 refine zv yA3 ?_
 refine s_eq ?_
 refine s_mv ?_
 refine zp _ 8 F0 ?_ ?_ <;> intro C1 F1
 refine s_fa zbQ ?_
 refine zv yA9 ?_
 refine s_neS ?_
 refine zz ?_
 refine s_mv ?_
 refine zp _ 13 F1 ?_ ?_ <;> intro C2 F2
 refine s_fa zbQ ?_
 refine zv yA9 ?_
 refine s_neS ?_
 refine zz ?_
 refine s_mv ?_
 refine zp _ 18 F2 ?_ ?_ <;> intro C3 F3
 refine s_mv ?_
 refine zI yA27 yS27 ?_
 obtain ⟨v4, V4, F4⟩ := zc F3
 refine zx [] (zf0 fuel _ _ _ V4) ?_
 refine zby ?_
 refine zz ?_
 refine s_as ?_
 refine zf (zd (zh (zm ?_)))
 cases F4
 exact zk [] [] Tryz.results138
 iterate 4 refine r_no rfl ?_
 refine zy ?_
 refine s_as ?_
 refine zf (zd (zh (zm ?_)))
 cases F3
 exact zk [] [] Tryz.results138
 iterate 3 refine r_no rfl ?_
 refine zy ?_
 refine s_mv ?_
 iterate 4 refine r_no rfl ?_
 refine zy ?_
 refine s_as ?_
 refine zf (zd (zh (zm ?_)))
 cases F2
 exact zk [] [] Tryz.results138
 iterate 3 refine r_no rfl ?_
 refine zy ?_
 refine s_mv ?_
 iterate 3 refine r_no rfl ?_
 refine zy ?_
 refine s_mv ?_
 iterate 4 refine r_no rfl ?_
 refine zy ?_
 refine s_as ?_
 refine zf (zd (zh (zm ?_)))
 cases F1
 exact zk [] [] Tryz.results138
def zde (fuel : Nat) : Prop := ∀ (x1 : Form) (x2 : (List Form)) (x3 : Int) (o1 : (List Form)) (o2 : (List Int)) (r : ((List Form) × (List Int))), za0 fuel x1 x2 x3 o1 o2 = some r → AC Tryz.prog 108 [.ag [.t (.sc (.int .i64 x1.kind)), .t (.sc (.str x1.name)), .t (.sc (.int .i64 x1.n)), .t (.sl (x1.scopes.map rI)), .t (.sl (x1.kids.map Form.row))], .t (.sl (x2.map Form.row)), .t (.sc (.int .i64 x3)), .rf 9000 0, .rf 9001 0] (objs [(9000, .box [.ar 9420]), (9420, .arr (o1.map Form.row) 27 true), (9001, .box [.ar 9440]), (9440, .arr (o2.map rI) 3 true)]) (.tp []) (objs [(9000, .box [.ar 10420]), (9420, .dead), (9001, .box [.ar 10440]), (9440, .dead), (10420, .arr (r.1.map Form.row) 27 true), (10440, .arr (r.2.map rI) 3 true)])
theorem m_impl_patternVars_st (fu : Nat) (ih_m_impl_patternVars : ∀ k, k ≤ fu → zde k) : zde (fu + 1) := by
 intro x1 x2 x3 o1 o2 r F0
 rw [za0] at F0
 refine AC_i [] Tryz.func108 rfl Tryz.ntmps108 ?_
 intro C hC
 refine zb (za ?_)
 refine zbz ?_
 refine zf (zd (zb (zb (za ?_))))
 refine zI yA27 yS27 ?_
 refine s_mv ?_
 obtain ⟨v1, V1, F1⟩ := zc F0
 refine zx [] (m_impl_isVar_ok fu _ _ _ V1) ?_
 refine zf (zd ?_)
 refine zo F1 ?_ ?_ <;> intro C2 F2
 refine zb ?_
 refine zW yMix (by kernel_rfl) ?_
 refine zfK ?_
 refine s_nc ?_
 refine zv yA25 ?_
 refine zI yA27 yS27 ?_
 refine zgq yU25 ?_
 refine s_bs Form.row [(Form.mk 0 (⟨#[]⟩ : ByteArray) 0 ([] : List Int) ([] : List Form))] yP25 yR27 ?_
 obtain ⟨hk3, F3⟩ := zai F2
 refine zfo Form.row (fun y => Form.row_len y) hk3 yP25 ?_
 obtain ⟨v4, V4, F4⟩ := zc F3
 refine s_ixA Form.row V4 yE25 ?_
 refine s_stA Form.row x1 V4 (Form.row_eq _) (Form.row_eq _) yS27 yS27 ?_
 refine s_nc ?_
 refine zap yS25 ?_
 refine zaA (by kernel_rfl) ?_
 refine zd (za ?_)
 refine s_mv ?_
 refine s_mv ?_
 refine s_nc ?_
 refine zv yA24 ?_
 refine s_mv ?_
 refine s_bs rI [x3] yP24 yR3 ?_
 obtain ⟨hk5, F5⟩ := zai F4
 refine zfo rI (fun _ => rfl) hk5 yP24 ?_
 refine s_nc ?_
 refine zap yS24 ?_
 refine zf (zd (zb (za ?_)))
 refine s_fa zR ?_
 refine zv yA25 ?_
 refine zD yU25 ?_
 refine s_mv ?_
 refine zf (zd (zl ?_))
 refine zfJ 9000 22 5020 [.ar 5020] ?_
 refine zfJ 9001 31 5021 [.ar 5021] ?_
 refine zax [10, 11, 12, 36, 37, 38, 39, 40, 41, 42, 43, 44, 45, 46, 47, 48, 49, 50, 51, 52, 53, 54, 55, 56, 57, 58, 59, 60, 61, 62, 63, 64, 65] [5020, 5021, 9000, 9001] [11, 42064, 52064] [5020, 5021] (fun a : Nat × Int × (List Form) × (List Int) => a.1) (fun a : Nat × Int × (List Form) × (List Int) => [(36, .t (.sc (.int .i64 a.2.1)))]) (fun a : Nat × Int × (List Form) × (List Int) => [(5020, .arr (a.2.2.1.map Form.row) 27 true), (5021, .arr (a.2.2.2.map rI) 3 true), (9000, .box [.ar 5020]), (9001, .box [.ar 5021])]) (fun a : Nat × Int × (List Form) × (List Int) => a.1 ≤ fu ∧ zG a.1 x1 x2 x3 a.2.1 a.2.2.1 a.2.2.2 = some r ∧ 0 ≤ a.2.1) (fu, 0, ((o1 ++ [(Form.mk 0 (⟨#[]⟩ : ByteArray) 0 ([] : List Int) ([] : List Form))]).set (o1.length : Int).toNat x1), (o2 ++ [x3])) ⟨Nat.le_refl _, F5, by simp⟩ (by rfl) (by rfl) (fun _ => rfl) (zL (by conv => lhs; whnf) (by rfl) zbx) (zP (by conv => lhs; whnf) (by rfl) (zP (by conv => lhs; whnf) (by rfl) (zP (by conv => lhs; whnf) (by rfl) (zP (by conv => lhs; whnf) (by rfl) zbm)))) (zcx hC rfl) (by repeat (first | exact zak rfl | refine zaG rfl ?_ | refine zZ rfl ?_)) (by repeat (first | exact za3 | exact zas rfl | refine zaH rfl ?_ | refine z6 rfl ?_)) ?_
 clear F5
 rintro ⟨fu, g6, g7, g8⟩ ⟨hl9, F6, hn_g6⟩
 dsimp only at hl9 F6 hn_g6 ⊢
 obtain _ | fu := fu
 · rw [zG] at F6; cases F6
 rw [zG] at F6
 refine zb (za ?_)
 refine s_lt ?_
 refine zf (zd (zb ?_))
 refine zo F6 ?_ ?_ <;> intro C10 F7
 refine zT 34 (fun B11 => ?_)
 refine zi (zd (zb (zl (zb (za ?_)))))
 refine s_mv ?_
 obtain ⟨v12, V12, F8⟩ := zc F7
 refine z7 Form.row V12 (Form.row_eq _) yE25 ?_
 refine za1 yA27 yS27 ?_
 refine zY yZ27 ?_
 refine s_as ?_
 refine zap yS27 ?_
 refine zf (zd (zb (za ?_)))
 refine s_mv ?_
 refine s_as ?_
 refine zf (zd (zb (zb (za ?_))))
 refine s_mv ?_
 refine zQ (zbg C10 B11 hn_g6) ?_
 refine s_fa zR ?_
 refine zv yA25 ?_
 refine zD yU25 ?_
 refine s_lt ?_
 refine s_mv ?_
 refine zp _ 48 F8 ?_ ?_ <;> intro C13 F9
 refine s_fa zR ?_
 refine zv yA25 ?_
 refine s_mv ?_
 refine zQ (zbg C10 B11 hn_g6) ?_
 obtain ⟨v14, V14, F10⟩ := zc F9
 refine z7 Form.row V14 (Form.row_eq _) yE25 ?_
 refine za1 yA27 yS27 ?_
 obtain ⟨v15, V15, F11⟩ := zc F10
 refine zx [] (zdv fu _ _ _ V15) ?_
 refine zz ?_
 refine zf (zd ?_)
 refine zo F11 ?_ ?_ <;> intro C16 F12
 refine za ?_
 refine s_mv ?_
 refine zQ rfl ?_
 refine s_as ?_
 refine zf (zd (za ?_))
 refine zI yA27 yS27 ?_
 iterate 4 refine s_mv ?_
 obtain ⟨v17, V17, F13⟩ := zc F12
 refine zN [(9000, 9000), (9001, 9001), (9420, 5020), (9440, 5021), (10420, 42064), (10440, 52064)] [] _ _ (ih_m_impl_patternVars fu (by omega) _ _ _ _ _ _ V17) ?_
 refine zf (zX (zd (za ?_)))
 refine zQ (zbg C10 B11 hn_g6) ?_
 refine s_mv ?_
 refine zf ?_
 exact s_rn (fu, (g6 + 1), v17.1, v17.2) ⟨by first | omega | (dsimp only; omega), F13, by first | omega | (dsimp only; omega)⟩ [(5020, 42064), (5021, 52064)]
 refine zi (zd (za ?_))
 refine zI yA27 yS27 ?_
 iterate 4 refine s_mv ?_
 obtain ⟨v18, V18, F13⟩ := zc F12
 refine zN [(9000, 9000), (9001, 9001), (9420, 5020), (9440, 5021), (10420, 42064), (10440, 52064)] [] _ _ (ih_m_impl_patternVars fu (by omega) _ _ _ _ _ _ V18) ?_
 refine zf (zX (zd (za ?_)))
 refine zQ (zbg C10 B11 hn_g6) ?_
 refine s_mv ?_
 refine zf ?_
 exact s_rn (fu, (g6 + 1), v18.1, v18.2) ⟨by first | omega | (dsimp only; omega), F13, by first | omega | (dsimp only; omega)⟩ [(5020, 42064), (5021, 52064)]
 iterate 7 refine r_no rfl ?_
 refine zy ?_
 refine zf (zd (zbn rfl (zi (zd (za ?_)))))
 refine zI yA27 yS27 ?_
 iterate 4 refine s_mv ?_
 obtain ⟨v19, V19, F10⟩ := zc F9
 refine zN [(9000, 9000), (9001, 9001), (9420, 5020), (9440, 5021), (10420, 42064), (10440, 52064)] [] _ _ (ih_m_impl_patternVars fu (by omega) _ _ _ _ _ _ V19) ?_
 refine zf (zX (zd (za ?_)))
 refine zQ (zbg C10 B11 hn_g6) ?_
 refine s_mv ?_
 refine zf ?_
 exact s_rn (fu, (g6 + 1), v19.1, v19.2) ⟨by first | omega | (dsimp only; omega), F10, by first | omega | (dsimp only; omega)⟩ [(5020, 42064), (5021, 52064)]
 refine zfJ 9000 5020 10420 [.ar 10420] ?_
 refine zfJ 9001 5021 10440 [.ar 10440] ?_
 refine zC (zr (zq (zu (k_fin_end ?_))))
 cases F7
 exact zk _ [] Tryz.results108
 refine zi (zd (zb (za ?_)))
 refine s_fa zR ?_
 refine zv yA25 ?_
 refine zD yU25 ?_
 refine s_mv ?_
 refine zf (zd (zl ?_))
 refine zfJ 9000 9420 5040 [.ar 5040] ?_
 refine zfJ 9001 9440 5041 [.ar 5041] ?_
 refine zax [10, 11, 12, 36, 37, 38, 39, 40, 41, 42, 43, 44, 45, 46, 47, 48, 49, 50, 51, 52, 53, 54, 55, 56, 57, 58, 59, 60, 61, 62, 63, 64, 65] [5040, 5041, 9000, 9001] [11, 42064, 52064] [5040, 5041] (fun a : Nat × Int × (List Form) × (List Int) => a.1) (fun a : Nat × Int × (List Form) × (List Int) => [(36, .t (.sc (.int .i64 a.2.1)))]) (fun a : Nat × Int × (List Form) × (List Int) => [(5040, .arr (a.2.2.1.map Form.row) 27 true), (5041, .arr (a.2.2.2.map rI) 3 true), (9000, .box [.ar 5040]), (9001, .box [.ar 5041])]) (fun a : Nat × Int × (List Form) × (List Int) => a.1 ≤ fu ∧ zG a.1 x1 x2 x3 a.2.1 a.2.2.1 a.2.2.2 = some r ∧ 0 ≤ a.2.1) (fu, 0, o1, o2) ⟨Nat.le_refl _, F2, by simp⟩ (by rfl) (by rfl) (fun _ => rfl) (zL (by conv => lhs; whnf) (by rfl) zbx) (zP (by conv => lhs; whnf) (by rfl) (zP (by conv => lhs; whnf) (by rfl) (zP (by conv => lhs; whnf) (by rfl) (zP (by conv => lhs; whnf) (by rfl) zbm)))) (zcx hC rfl) (by repeat (first | exact zak rfl | refine zaG rfl ?_ | refine zZ rfl ?_)) (by repeat (first | exact za3 | exact zas rfl | refine zaH rfl ?_ | refine z6 rfl ?_)) ?_
 clear F2
 rintro ⟨fu, g20, g21, g22⟩ ⟨hl23, F3, hn_g20⟩
 dsimp only at hl23 F3 hn_g20 ⊢
 obtain _ | fu := fu
 · rw [zG] at F3; cases F3
 rw [zG] at F3
 refine zb (za ?_)
 refine s_lt ?_
 refine zf (zd (zb ?_))
 refine zo F3 ?_ ?_ <;> intro C24 F4
 refine zT 34 (fun B25 => ?_)
 refine zi (zd (zb (zl (zb (za ?_)))))
 refine s_mv ?_
 obtain ⟨v26, V26, F5⟩ := zc F4
 refine z7 Form.row V26 (Form.row_eq _) yE25 ?_
 refine za1 yA27 yS27 ?_
 refine zY yZ27 ?_
 refine s_as ?_
 refine zap yS27 ?_
 refine zf (zd (zb (za ?_)))
 refine s_mv ?_
 refine s_as ?_
 refine zf (zd (zb (zb (za ?_))))
 refine s_mv ?_
 refine zQ (zbg C24 B25 hn_g20) ?_
 refine s_fa zR ?_
 refine zv yA25 ?_
 refine zD yU25 ?_
 refine s_lt ?_
 refine s_mv ?_
 refine zp _ 48 F5 ?_ ?_ <;> intro C27 F6
 refine s_fa zR ?_
 refine zv yA25 ?_
 refine s_mv ?_
 refine zQ (zbg C24 B25 hn_g20) ?_
 obtain ⟨v28, V28, F7⟩ := zc F6
 refine z7 Form.row V28 (Form.row_eq _) yE25 ?_
 refine za1 yA27 yS27 ?_
 obtain ⟨v29, V29, F8⟩ := zc F7
 refine zx [] (zdv fu _ _ _ V29) ?_
 refine zz ?_
 refine zf (zd ?_)
 refine zo F8 ?_ ?_ <;> intro C30 F9
 refine za ?_
 refine s_mv ?_
 refine zQ rfl ?_
 refine s_as ?_
 refine zf (zd (za ?_))
 refine zI yA27 yS27 ?_
 iterate 4 refine s_mv ?_
 obtain ⟨v31, V31, F10⟩ := zc F9
 refine zN [(9000, 9000), (9001, 9001), (9420, 5040), (9440, 5041), (10420, 42064), (10440, 52064)] [] _ _ (ih_m_impl_patternVars fu (by omega) _ _ _ _ _ _ V31) ?_
 refine zf (zX (zd (za ?_)))
 refine zQ (zbg C24 B25 hn_g20) ?_
 refine s_mv ?_
 refine zf ?_
 exact s_rn (fu, (g20 + 1), v31.1, v31.2) ⟨by first | omega | (dsimp only; omega), F10, by first | omega | (dsimp only; omega)⟩ [(5040, 42064), (5041, 52064)]
 refine zi (zd (za ?_))
 refine zI yA27 yS27 ?_
 iterate 4 refine s_mv ?_
 obtain ⟨v32, V32, F10⟩ := zc F9
 refine zN [(9000, 9000), (9001, 9001), (9420, 5040), (9440, 5041), (10420, 42064), (10440, 52064)] [] _ _ (ih_m_impl_patternVars fu (by omega) _ _ _ _ _ _ V32) ?_
 refine zf (zX (zd (za ?_)))
 refine zQ (zbg C24 B25 hn_g20) ?_
 refine s_mv ?_
 refine zf ?_
 exact s_rn (fu, (g20 + 1), v32.1, v32.2) ⟨by first | omega | (dsimp only; omega), F10, by first | omega | (dsimp only; omega)⟩ [(5040, 42064), (5041, 52064)]
 iterate 7 refine r_no rfl ?_
 refine zy ?_
 refine zf (zd (zbn rfl (zi (zd (za ?_)))))
 refine zI yA27 yS27 ?_
 iterate 4 refine s_mv ?_
 obtain ⟨v33, V33, F7⟩ := zc F6
 refine zN [(9000, 9000), (9001, 9001), (9420, 5040), (9440, 5041), (10420, 42064), (10440, 52064)] [] _ _ (ih_m_impl_patternVars fu (by omega) _ _ _ _ _ _ V33) ?_
 refine zf (zX (zd (za ?_)))
 refine zQ (zbg C24 B25 hn_g20) ?_
 refine s_mv ?_
 refine zf ?_
 exact s_rn (fu, (g20 + 1), v33.1, v33.2) ⟨by first | omega | (dsimp only; omega), F7, by first | omega | (dsimp only; omega)⟩ [(5040, 42064), (5041, 52064)]
 refine zfJ 9000 5040 10420 [.ar 10420] ?_
 refine zfJ 9001 5041 10440 [.ar 10440] ?_
 refine zC (zr (zq (zu (k_fin_end ?_))))
 cases F4
 exact zk _ [] Tryz.results108
theorem m_impl_patternVars_all (fuel : Nat) : zde fuel := by
 induction fuel using Nat.strongRecOn with
 | _ N ih =>
   cases N with
   | zero => exact (by intro x1 x2 x3 o1 o2 r h; rw [za0] at h; cases h)
   | succ fu => exact m_impl_patternVars_st fu (fun k hk => (ih k (by omega)))
theorem m_impl_patternVars_ok (fuel : Nat) : zde fuel := (m_impl_patternVars_all fuel)
def m_impl_varsOf_AC (fuel : Nat) : Prop := ∀ (x1 : Form) (x2 : (List Form)) (r : ((List Form) × (List Int))), zeK fuel x1 x2 = some r → AC Tryz.prog 56 [.ag [.t (.sc (.int .i64 x1.kind)), .t (.sc (.str x1.name)), .t (.sc (.int .i64 x1.n)), .t (.sl (x1.scopes.map rI)), .t (.sl (x1.kids.map Form.row))], .t (.sl (x2.map Form.row))] (objs []) (.tp [.ar 9200, .t (.sl (r.2.map rI))]) (objs [(9200, .arr (r.1.map Form.row) 27 true)])
theorem m_impl_varsOf_ok (fuel : Nat) : m_impl_varsOf_AC fuel := by
 intro x1 x2 r F0
 unfold zeK at F0
 refine AC_i [.ar 9200, .t (.sl (r.2.map rI))] Tryz.func56 rfl Tryz.ntmps56 ?_
 intro C hC
 refine zb (za ?_)
 refine zbz ?_
 refine s_as ?_
 refine s_as ?_
 refine zf (zd (zb (za ?_)))
 refine s_bs Form.row ([] : List Form) yP25 yR27 ?_
 refine s_bs rI ([] : List Int) yP24 yR3 ?_
 refine zY yZ25 ?_
 refine zY yZ24 ?_
 refine zap yS25 ?_
 refine zap yS24 ?_
 refine zf (zd (zb (za ?_)))
 refine zI yA27 yS27 ?_
 refine s_mv ?_
 obtain ⟨v1, V1, F1⟩ := zc F0
 refine zN [(9000, 6), (9001, 7), (9420, 8), (9440, 9), (10420, 42012), (10440, 52012)] [] _ _ (m_impl_patternVars_ok fuel _ _ _ _ _ _ V1) ?_
 refine zf (zd (zb ?_))
 refine zW yMix (by kernel_rfl) ?_
 refine zv yA25 ?_
 refine zv yA24 ?_
 refine s_as ?_
 refine s_as ?_
 refine zaA (by kernel_rfl) ?_
 refine zd ?_
 refine zcy 4 42012 9200 (by conv => lhs; whnf) (by conv => lhs; whnf) rfl ?_
 refine zh (zm ?_)
 cases F1
 exact zk _ [52012] Tryz.results56
def m_impl_PatternValid_AC (fuel : Nat) : Prop := ∀ (x1 : Form) (x2 : (List Form)) (r : Bool), zc1 fuel x1 x2 = some r → AC Tryz.prog 19 [.ag [.t (.sc (.int .i64 x1.kind)), .t (.sc (.str x1.name)), .t (.sc (.int .i64 x1.n)), .t (.sl (x1.scopes.map rI)), .t (.sl (x1.kids.map Form.row))], .t (.sl (x2.map Form.row))] noOb (.t (.sc (.bool r))) noOb
theorem m_impl_PatternValid_ok (fuel : Nat) : m_impl_PatternValid_AC fuel := by
 intro x1 x2 r F0
 unfold zc1 at F0
 refine AC_i [.t (.sc (.bool r))] Tryz.func19 rfl Tryz.ntmps19 ?_
 intro C hC
 refine zb (za ?_)
 refine zbz ?_
 refine s_as ?_
 refine zf (zd (zb (zb (za ?_))))
 refine zI yA27 yS27 ?_
 obtain ⟨v1, V1, F1⟩ := zc F0
 refine zx [] (zci fuel _ _ V1) ?_
 refine zby ?_
 refine s_mv ?_
 refine zp _ 12 F1 ?_ ?_ <;> intro C2 F2
 iterate 3 refine r_no rfl ?_
 refine zz ?_
 refine s_mv ?_
 refine r_no rfl (r_no rfl ?_)
 refine zz ?_
 refine s_mv ?_
 iterate 3 refine r_no rfl ?_
 refine zz ?_
 refine zf (zd (zM rfl (zb (za ?_))))
 refine s_as ?_
 refine zf (zd (zh (zg (zm ?_))))
 cases F2
 exact zk [] [] Tryz.results19
 refine s_mv ?_
 obtain ⟨v3, V3, F3⟩ := zc F2
 refine zx [] (m_impl_literalsOk_ok fuel _ _ V3) ?_
 refine zby ?_
 refine zy ?_
 refine s_mv ?_
 refine zp _ 17 F3 ?_ ?_ <;> intro C4 F4
 refine r_no rfl (r_no rfl ?_)
 refine zz ?_
 refine s_mv ?_
 iterate 3 refine r_no rfl ?_
 refine zz ?_
 refine zf (zd (zM rfl (zb (za ?_))))
 refine s_as ?_
 refine zf (zd (zh (zg (zm ?_))))
 cases F4
 exact zk [] [] Tryz.results19
 refine zI yA27 yS27 ?_
 obtain ⟨v5, V5, F5⟩ := zc F4
 refine zx [] (zdv fuel _ _ _ V5) ?_
 refine zy ?_
 refine s_mv ?_
 refine zp _ 21 F5 ?_ ?_ <;> intro C6 F6
 iterate 3 refine r_no rfl ?_
 refine zz ?_
 refine zf (zd (zM rfl (zb (za ?_))))
 refine s_as ?_
 refine zf (zd (zh (zg (zm ?_))))
 cases F6
 exact zk [] [] Tryz.results19
 refine zI yA27 yS27 ?_
 obtain ⟨v7, V7, F7⟩ := zc F6
 refine zx [] (m_impl_dotsOk_ok fuel _ _ _ V7) ?_
 refine zby ?_
 refine zy ?_
 refine zf (zd ?_)
 refine zo F7 ?_ ?_ <;> intro C8 F8
 refine zb (za ?_)
 refine s_as ?_
 refine zf (zd (zh (zg (zm ?_))))
 cases F8
 exact zk [] [] Tryz.results19
 refine zi (zd (zb (za ?_)))
 refine zI yA27 yS27 ?_
 refine s_mv ?_
 obtain ⟨v9, V9, F9⟩ := zc F8
 refine zN [(9200, 2029)] [] _ _ (m_impl_varsOf_ok fuel _ _ _ V9) ?_
 refine s_mv ?_
 refine zbP ?_
 refine zbP ?_
 refine s_as ?_
 refine s_as ?_
 refine zf (zd (zb (zb (za ?_))))
 refine s_mv ?_
 refine zgq yU25 ?_
 refine s_mv ?_
 refine zf (zd (zl ?_))
 refine awp_frz 2029 (by conv => lhs; whnf) ?_
 refine zbu (β := Int × (List Form)) [4, 7, 8, 34, 35, 36, 37, 38, 39, 40, 41, 42, 43, 44, 45, 46, 47, 48, 49, 50, 51] [2029] [8] (fun a => [(34, .t (.sc (.int .i64 a.2.1)))]) (fun a => [(2029, .arr (a.2.2.map Form.row) 27 false)]) (fun a => a.1 ≤ fuel ∧ zaE a.1 v9 a.2.1 a.2.2 = some r) (fuel, 0, v9.1) ⟨Nat.le_refl _, F9⟩ ?_
 clear F9
 rintro ⟨fu, g10, g11⟩ ⟨hl12, F10⟩
 dsimp only at hl12 F10 ⊢
 obtain _ | fu := fu
 · rw [zaE] at F10; cases F10
 rw [zaE] at F10
 refine zb (za ?_)
 refine s_lt ?_
 refine zf (zd (zb ?_))
 refine zo F10 ?_ ?_ <;> intro C13 F11
 refine zi (zd (zb (zl (zb (za ?_)))))
 refine s_mv ?_
 obtain ⟨v14, V14, F12⟩ := zc F11
 refine s_ixA Form.row V14 yE25 ?_
 refine s_lAN Form.row V14 (Form.row_eq _) yA27 yS27 ?_
 refine zY yZ27 ?_
 refine s_as ?_
 refine zap yS27 ?_
 refine zf (zd (zb ?_))
 refine zW yMix (by kernel_rfl) ?_
 refine zfK ?_
 refine s_mv ?_
 obtain ⟨v15, V15, F13⟩ := zc F12
 refine s_sl01 Form.row (fun y => Form.row_len y) V15 yU25 yE25 ?_
 refine zI yA27 yS27 ?_
 obtain ⟨v16, V16, F14⟩ := zc F13
 refine zx [] (zf0 fu _ _ _ V16) ?_
 refine s_mv ?_
 refine zp _ 44 F14 ?_ ?_ <;> intro C17 F15
 iterate 5 refine r_no rfl ?_
 refine zz ?_
 refine zaA (by kernel_rfl) ?_
 refine zd (zM rfl (zb (za ?_)))
 refine s_as ?_
 refine zf (zd (zh (zj (zg (zw (zj (zg (zm ?_))))))))
 cases F15
 exact zk [] [] Tryz.results19
 refine s_mv ?_
 refine s_mv ?_
 obtain ⟨v18, V18, F16⟩ := zc F15
 refine z7 rI V18 rfl yE24 ?_
 refine zv yA3 ?_
 refine s_gt ?_
 refine zy ?_
 refine zaA (by kernel_rfl) ?_
 refine zd ?_
 refine zo F16 ?_ ?_ <;> intro C19 F17
 refine zb (za ?_)
 refine s_as ?_
 refine zf (zd (zh (zj (zg (zw (zj (zg (zm ?_))))))))
 cases F17
 exact zk [] [] Tryz.results19
 refine zi (zX (zd (za ?_)))
 refine zQ rfl ?_
 refine s_mv ?_
 refine zf ?_
 exact s_rn (fu, (w64 (g10 + 1)), g11) ⟨by first | omega | (dsimp only; omega), F17⟩
 refine zC (zr (zq (zu (zd (zb (za ?_))))))
 refine s_mv ?_
 refine zgq yU25 ?_
 refine s_le ?_
 refine s_as ?_
 refine zf (zd (zh (zm ?_)))
 cases F11
 exact zk [] [] Tryz.results19
def m_slices_Index_int_AC (fuel : Nat) : Prop := ∀ (x1 : (List Int)) (x2 : Int) (r : Int), zei fuel x1 x2 = some r → AC Tryz.prog 164 [.t (.sl (x1.map rI)), .t (.sc (.int .i64 x2))] noOb (.t (.sc (.int .i64 r))) noOb
theorem m_slices_Index_int_ok (fuel : Nat) : m_slices_Index_int_AC fuel := by
 intro x1 x2 r F0
 unfold zei at F0
 refine AC_i [.t (.sc (.int .i64 r))] Tryz.func164 rfl Tryz.ntmps164 ?_
 intro C hC
 refine zb (za ?_)
 refine s_as ?_
 refine zf (zd (zb (zb (za ?_))))
 refine s_mv ?_
 refine zD yU24 ?_
 refine s_mv ?_
 refine zf (zd (zl ?_))
 refine zbu (β := Int) [4, 5, 8, 9, 10, 11, 12, 13, 14, 15, 16, 17, 18] [] [] (fun a => [(8, .t (.sc (.int .i64 a.2)))]) (fun a => []) (fun a => a.1 ≤ fuel ∧ zbp a.1 x1 x2 a.2 = some r ∧ 0 ≤ a.2) (fuel, 0) ⟨Nat.le_refl _, F0, by simp⟩ ?_
 clear F0
 rintro ⟨fu, g1⟩ ⟨hl2, F1, hn_g1⟩
 dsimp only at hl2 F1 hn_g1 ⊢
 obtain _ | fu := fu
 · rw [zbp] at F1; cases F1
 rw [zbp] at F1
 refine zb (za ?_)
 refine s_lt ?_
 refine zf (zd (zb ?_))
 refine zo F1 ?_ ?_ <;> intro C3 F2
 refine zT 0 (fun B4 => ?_)
 refine zi (zd (zb (zl (zb (za ?_)))))
 refine s_mv ?_
 refine s_as ?_
 refine zf (zd (zb (za ?_)))
 iterate 3 refine s_mv ?_
 obtain ⟨v5, V5, F3⟩ := zc F2
 refine z7 rI V5 rfl yE24 ?_
 refine zv yA3 ?_
 refine s_eq ?_
 refine zf (zd ?_)
 refine zo F3 ?_ ?_ <;> intro C6 F4
 refine zb (za ?_)
 refine s_mv ?_
 refine s_as ?_
 refine zf (zd (zh (zj (zg (zw (zj (zg (zm ?_))))))))
 cases F4
 exact zk [] [] Tryz.results164
 refine zi (zX (zd (za ?_)))
 refine zQ (zbg C3 B4 hn_g1) ?_
 refine s_mv ?_
 refine zf ?_
 exact s_rn (fu, (g1 + 1)) ⟨by first | omega | (dsimp only; omega), F4, by first | omega | (dsimp only; omega)⟩
 refine zC (zr (zq (zu (zd (zb (za ?_))))))
 refine s_as ?_
 refine zf (zd (zh (zm ?_)))
 cases F2
 exact zk [] [] Tryz.results164
def zgY (fuel : Nat) : Prop := ∀ (x1 : (List Int)) (x2 : Int) (r : Bool), zcr fuel x1 x2 = some r → AC Tryz.prog 162 [.t (.sl (x1.map rI)), .t (.sc (.int .i64 x2))] noOb (.t (.sc (.bool r))) noOb
theorem zgX (fuel : Nat) : zgY fuel := by
 intro x1 x2 r F0
 unfold zcr at F0
 refine AC_i [.t (.sc (.bool r))] Tryz.func162 rfl Tryz.ntmps162 ?_
 intro C hC
 refine zb (za ?_)
 refine s_as ?_
 refine zf (zd (zb (za ?_)))
 refine s_mv ?_
 refine s_mv ?_
 obtain ⟨v1, V1, F1⟩ := zc F0
 refine zx [] (m_slices_Index_int_ok fuel _ _ _ V1) ?_
 refine s_ge ?_
 refine s_as ?_
 refine zf (zd (zh (zm ?_)))
 cases F1
 exact zk [] [] Tryz.results162
end Go.Abs
