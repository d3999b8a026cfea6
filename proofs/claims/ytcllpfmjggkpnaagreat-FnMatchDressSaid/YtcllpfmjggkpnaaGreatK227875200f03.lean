/- A part of the proof: what the functions that the law calls answer, as pure values. -/
import Derived.Test.YtcllpfmjggkpnaaGreatK73f09199af94
import Derived.Test.YtcllpfmjggkpnaaGreatKb347e3c4ab73
import Derived.Test.YtcllpfmjggkpnaaGreatKa15390ddf9b4
import Derived.Test.YtcllpfmjggkpnaaGreatK98a493ba4651
set_option linter.unusedSimpArgs false
set_option linter.unusedVariables false
set_option maxRecDepth 100000
set_option maxHeartbeats 4000000
namespace Go.Abs
open Go.Proofs
def m_impl_scopesOk_AC (fuel : Nat) : Prop := ∀ (x1 : (List Int)) (r : Bool), zdu fuel x1 = some r → AC Tryz.prog 49 [.t (.sl (x1.map rI))] noOb (.t (.sc (.bool r))) noOb
theorem zgK (fuel : Nat) : m_impl_scopesOk_AC fuel := by
 intro x1 r F0
 unfold zdu at F0
 refine AC_i [.t (.sc (.bool r))] Tryz.func49 rfl Tryz.ntmps49 ?_
 intro C hC
 refine zb (za ?_)
 refine s_as ?_
 refine zf (zd (zb (zb (za ?_))))
 refine s_mv ?_
 refine zD yU24 ?_
 refine s_mv ?_
 refine zf (zd (zl ?_))
 refine zbu (β := Int) [2, 3, 4, 7, 8, 9, 10, 11, 12, 13, 14, 15, 16, 17, 18, 19, 20, 21, 22, 23, 24, 25, 26, 27, 28] [] [] (fun a => [(7, .t (.sc (.int .i64 a.2)))]) (fun a => []) (fun a => a.1 ≤ fuel ∧ zbl a.1 x1 a.2 = some r ∧ 0 ≤ a.2) (fuel, 0) ⟨Nat.le_refl _, F0, by simp⟩ ?_
 clear F0
 rintro ⟨fu, g1⟩ ⟨hl2, F1, hn_g1⟩
 dsimp only at hl2 F1 hn_g1 ⊢
 obtain _ | fu := fu
 · rw [zbl] at F1; cases F1
 rw [zbl] at F1
 refine zb (za ?_)
 refine s_lt ?_
 refine zf (zd (zb ?_))
 refine zo F1 ?_ ?_ <;> intro C3 F2
 refine zT 0 (fun B4 => ?_)
 refine zi (zd (zb (zl (zb (za ?_)))))
 refine s_mv ?_
 obtain ⟨v5, V5, F3⟩ := zc F2
 refine z7 rI V5 rfl yE24 ?_
 refine zv yA3 ?_
 refine s_as ?_
 refine s_as ?_
 refine zf (zd (zb (za ?_)))
 refine s_mv ?_
 obtain ⟨v6, V6, F4⟩ := zc F3
 refine zx [] (zdb fu _ _ _ _ V6) ?_
 refine zby ?_
 refine s_mv ?_
 refine zp _ 15 F4 ?_ ?_ <;> intro C7 F5
 iterate 11 refine r_no rfl ?_
 refine zz ?_
 refine zf (zd (zM rfl (zb (za ?_))))
 refine s_as ?_
 refine zf (zd (zh (zj (zg (zw (zj (zg (zm ?_))))))))
 cases F5
 exact zk [] [] Tryz.results49
 refine s_mv ?_
 refine s_gt ?_
 refine s_mv ?_
 refine zp _ 18 F5 ?_ ?_ <;> intro C8 F6
 refine s_mv ?_
 refine s_mv ?_
 refine zgS rfl ?_
 obtain ⟨v9, V9, F7⟩ := zc F6
 refine z7 rI V9 rfl yE24 ?_
 refine zv yA3 ?_
 refine s_mv ?_
 refine s_ge ?_
 refine zz ?_
 refine zy ?_
 refine zf (zd ?_)
 refine zo F7 ?_ ?_ <;> intro C10 F8
 refine zb (za ?_)
 refine s_as ?_
 refine zf (zd (zh (zj (zg (zw (zj (zg (zm ?_))))))))
 cases F8
 exact zk [] [] Tryz.results49
 refine zi (zX (zd (za ?_)))
 refine zQ (zbg C3 B4 hn_g1) ?_
 refine s_mv ?_
 refine zf ?_
 exact s_rn (fu, (g1 + 1)) ⟨by first | omega | (dsimp only; omega), F8, by first | omega | (dsimp only; omega)⟩
 iterate 7 refine r_no rfl ?_
 refine zy ?_
 refine zy ?_
 refine zf (zd (zbn rfl (zi (zX (zd (za ?_))))))
 refine zQ (zbg C3 B4 hn_g1) ?_
 refine s_mv ?_
 refine zf ?_
 exact s_rn (fu, (g1 + 1)) ⟨by first | omega | (dsimp only; omega), F6, by first | omega | (dsimp only; omega)⟩
 refine zC (zr (zq (zu (zd (zb (za ?_))))))
 refine s_mv ?_
 refine zD yU24 ?_
 refine s_le ?_
 refine s_as ?_
 refine zf (zd (zh (zm ?_)))
 cases F2
 exact zk [] [] Tryz.results49
def m_slices_Equal_int_AC (fuel : Nat) : Prop := ∀ (x1 : (List Int)) (x2 : (List Int)) (r : Bool), zcz fuel x1 x2 = some r → AC Tryz.prog 34 [.t (.sl (x1.map rI)), .t (.sl (x2.map rI))] noOb (.t (.sc (.bool r))) noOb
theorem zf4 (fuel : Nat) : m_slices_Equal_int_AC fuel := by
 intro x1 x2 r F0
 unfold zcz at F0
 refine AC_i [.t (.sc (.bool r))] Tryz.func34 rfl Tryz.ntmps34 ?_
 intro C hC
 refine zb (za ?_)
 refine s_as ?_
 refine zf (zd (zb (zb (za ?_))))
 refine s_mv ?_
 refine zD yU24 ?_
 refine s_mv ?_
 refine zD yU24 ?_
 refine s_ne ?_
 refine zf (zd ?_)
 refine zo F0 ?_ ?_ <;> intro C1 F1
 refine zb (za ?_)
 refine s_as ?_
 refine zf (zd (zh (zg (zm ?_))))
 cases F1
 exact zk [] [] Tryz.results34
 refine zi (zd (zb (zb (za ?_))))
 refine s_mv ?_
 refine zD yU24 ?_
 refine s_mv ?_
 refine zf (zd (zl ?_))
 refine zbu (β := Int) [4, 5, 13, 14, 15, 16, 17, 18, 19, 20, 21, 22, 23, 24, 25] [] [] (fun a => [(13, .t (.sc (.int .i64 a.2)))]) (fun a => []) (fun a => a.1 ≤ fuel ∧ zbq a.1 x1 x2 a.2 = some r ∧ 0 ≤ a.2) (fuel, 0) ⟨Nat.le_refl _, F1, by simp⟩ ?_
 clear F1
 rintro ⟨fu, g2⟩ ⟨hl3, F2, hn_g2⟩
 dsimp only at hl3 F2 hn_g2 ⊢
 obtain _ | fu := fu
 · rw [zbq] at F2; cases F2
 rw [zbq] at F2
 refine zb (za ?_)
 refine s_lt ?_
 refine zf (zd (zb ?_))
 refine zo F2 ?_ ?_ <;> intro C4 F3
 refine zT 0 (fun B5 => ?_)
 refine zi (zd (zb (zl (zb (za ?_)))))
 refine s_mv ?_
 refine s_as ?_
 refine zf (zd (zb ?_))
 refine zW yMix (by kernel_rfl) ?_
 refine s_mv ?_
 refine s_mv ?_
 obtain ⟨v6, V6, F4⟩ := zc F3
 refine z7 rI V6 rfl yE24 ?_
 refine zv yA3 ?_
 refine s_mv ?_
 refine s_mv ?_
 obtain ⟨v7, V7, F5⟩ := zc F4
 refine z7 rI V7 rfl yE24 ?_
 refine zv yA3 ?_
 refine s_ne ?_
 refine zaA (by kernel_rfl) ?_
 refine zd ?_
 refine zo F5 ?_ ?_ <;> intro C8 F6
 refine zb (za ?_)
 refine s_as ?_
 refine zf (zd (zh (zj (zg (zw (zj (zg (zm ?_))))))))
 cases F6
 exact zk [] [] Tryz.results34
 refine zi (zX (zd (za ?_)))
 refine zQ (zbg C4 B5 hn_g2) ?_
 refine s_mv ?_
 refine zf ?_
 exact s_rn (fu, (g2 + 1)) ⟨by first | omega | (dsimp only; omega), F6, by first | omega | (dsimp only; omega)⟩
 refine zC (zr (zq (zu (zd (zb (za ?_))))))
 refine s_as ?_
 refine zf (zd (zh (zm ?_)))
 cases F3
 exact zk [] [] Tryz.results34
def m_impl_BindsValid_1_AC (fuel : Nat) : Prop := ∀ (x1 : Bind) (o1 : Bind) (r : Bool), zc2 fuel x1 o1 = some r → AC Tryz.prog 52 [.ag [.t (.sc (.str x1.name)), .t (.sl (x1.scopes.map rI)), .t (.sc (.int .i64 x1.id))], .rf 9000 0] (objs [(9000, .box [.t (.sc (.str o1.name)), .t (.sl (o1.scopes.map rI)), .t (.sc (.int .i64 o1.id))])]) (.t (.sc (.bool r))) (objs [(9000, .box [.t (.sc (.str o1.name)), .t (.sl (o1.scopes.map rI)), .t (.sc (.int .i64 o1.id))])])
theorem m_impl_BindsValid_1_ok (fuel : Nat) : m_impl_BindsValid_1_AC fuel := by
 intro x1 o1 r F0
 unfold zc2 at F0
 refine AC_i [.t (.sc (.bool r))] Tryz.func52 rfl Tryz.ntmps52 ?_
 intro C hC
 refine zb (za ?_)
 refine zbz ?_
 refine s_as ?_
 refine zf (zd (zb (za ?_)))
 refine s_fa yF50_0 ?_
 refine zv yA9 ?_
 refine s_fa yF50_0 ?_
 refine zv yA9 ?_
 refine zf1 ?_
 refine s_mv ?_
 refine zp _ 9 F0 ?_ ?_ <;> intro C1 F1
 refine s_fa yF50_1 ?_
 refine zv yA24 ?_
 refine s_fa yF50_1 ?_
 refine zv yA24 ?_
 obtain ⟨v2, V2, F2⟩ := zc F1
 refine zx [] (zf4 fuel _ _ _ V2) ?_
 refine zz ?_
 refine s_as ?_
 refine zf (zd (zh (zm ?_)))
 cases F2
 exact zk _ [] Tryz.results52
 iterate 5 refine r_no rfl ?_
 refine zy ?_
 refine s_as ?_
 refine zf (zd (zh (zm ?_)))
 cases F1
 exact zk _ [] Tryz.results52
def zet (fuel : Nat) : Prop := ∀ (x1 : (List Bind)) (o1 : Bind) (r : Int), zaZ fuel x1 o1 = some r → AC Tryz.prog 107 [.t (.sl (x1.map Bind.row)), .fn 52 [.rf 9000 0]] (objs [(9000, .box [.t (.sc (.str o1.name)), .t (.sl (o1.scopes.map rI)), .t (.sc (.int .i64 o1.id))])]) (.t (.sc (.int .i64 r))) (objs [(9000, .box [.t (.sc (.str o1.name)), .t (.sl (o1.scopes.map rI)), .t (.sc (.int .i64 o1.id))])])
theorem zes (fuel : Nat) : zet fuel := by
 intro x1 o1 r F0
 unfold zaZ at F0
 refine AC_i [.t (.sc (.int .i64 r))] Tryz.func107 rfl Tryz.ntmps107 ?_
 intro C hC
 refine zb (za ?_)
 refine s_as ?_
 refine zf (zd (zb (zb (za ?_))))
 refine s_mv ?_
 refine zD yU23 ?_
 refine s_mv ?_
 refine zf (zd (zl ?_))
 refine zbu (β := Int) [4, 5, 8, 9, 10, 11, 12, 13, 14, 15, 16, 17, 18] [] [] (fun a => [(8, .t (.sc (.int .i64 a.2)))]) (fun a => []) (fun a => a.1 ≤ fuel ∧ zK a.1 x1 o1 a.2 = some r ∧ 0 ≤ a.2) (fuel, 0) ⟨Nat.le_refl _, F0, by simp⟩ ?_
 clear F0
 rintro ⟨fu, g1⟩ ⟨hl2, F1, hn_g1⟩
 dsimp only at hl2 F1 hn_g1 ⊢
 obtain _ | fu := fu
 · rw [zK] at F1; cases F1
 rw [zK] at F1
 refine zb (za ?_)
 refine s_lt ?_
 refine zf (zd (zb ?_))
 refine zo F1 ?_ ?_ <;> intro C3 F2
 refine zT 0 (fun B4 => ?_)
 refine zi (zd (zb (zl (zb (za ?_)))))
 refine s_mv ?_
 refine s_as ?_
 refine zf (zd (zb (za ?_)))
 iterate 3 refine s_mv ?_
 obtain ⟨v5, V5, F3⟩ := zc F2
 refine z7 Bind.row V5 (Bind.row_eq _) yE23 ?_
 refine za1 yA50 yS50 ?_
 obtain ⟨v6, V6, F4⟩ := zc F3
 refine zN [(9000, 9000)] [] _ _ (m_impl_BindsValid_1_ok fu _ _ _ V6) ?_
 refine zf (zd ?_)
 refine zo F4 ?_ ?_ <;> intro C7 F5
 refine zb (za ?_)
 refine s_mv ?_
 refine s_as ?_
 refine zf (zd (zh (zj (zg (zw (zj (zg (zm ?_))))))))
 cases F5
 exact zk _ [] Tryz.results107
 refine zi (zX (zd (za ?_)))
 refine zQ (zbg C3 B4 hn_g1) ?_
 refine s_mv ?_
 refine zf ?_
 exact s_rn (fu, (g1 + 1)) ⟨by first | omega | (dsimp only; omega), F5, by first | omega | (dsimp only; omega)⟩
 refine zC (zr (zq (zu (zd (zb (za ?_))))))
 refine s_as ?_
 refine zf (zd (zh (zm ?_)))
 cases F2
 exact zk _ [] Tryz.results107
def zd9 (fuel : Nat) : Prop := ∀ (x1 : (List Bind)) (o1 : Bind) (r : Bool), zaP fuel x1 o1 = some r → AC Tryz.prog 51 [.t (.sl (x1.map Bind.row)), .fn 52 [.rf 9000 0]] (objs [(9000, .box [.t (.sc (.str o1.name)), .t (.sl (o1.scopes.map rI)), .t (.sc (.int .i64 o1.id))])]) (.t (.sc (.bool r))) (objs [(9000, .box [.t (.sc (.str o1.name)), .t (.sl (o1.scopes.map rI)), .t (.sc (.int .i64 o1.id))])])
theorem zd8 (fuel : Nat) : zd9 fuel := by
 intro x1 o1 r F0
 unfold zaP at F0
 refine AC_i [.t (.sc (.bool r))] Tryz.func51 rfl Tryz.ntmps51 ?_
 intro C hC
 refine zb (za ?_)
 refine s_as ?_
 refine zf (zd (zb (za ?_)))
 refine s_mv ?_
 refine s_mv ?_
 obtain ⟨v1, V1, F1⟩ := zc F0
 refine zN [(9000, 9000)] [] _ _ (zes fuel _ _ _ V1) ?_
 refine s_ge ?_
 refine s_as ?_
 refine zf (zd (zh (zm ?_)))
 cases F1
 exact zk _ [] Tryz.results51
def m_impl_BindsValid_AC (fuel : Nat) : Prop := ∀ (x1 : (List Bind)) (r : Bool), zcj fuel x1 = some r → AC Tryz.prog 18 [.t (.sl (x1.map Bind.row))] noOb (.t (.sc (.bool r))) noOb
theorem zeP (fuel : Nat) : m_impl_BindsValid_AC fuel := by
 intro x1 r F0
 unfold zcj at F0
 refine AC_i [.t (.sc (.bool r))] Tryz.func18 rfl Tryz.ntmps18 ?_
 intro C hC
 refine zb (za ?_)
 refine s_as ?_
 refine zf (zd (zb (zb (za ?_))))
 refine s_mv ?_
 refine zD yU23 ?_
 refine s_mv ?_
 refine zf (zd (zl ?_))
 refine zbu (β := Int) [2, 3, 4, 7, 8, 9, 10, 11, 12, 13, 14, 15, 16, 17, 18, 19, 20, 21, 22, 23, 24, 25, 26, 27, 28, 29, 30, 31, 32, 33] [] [4] (fun a => [(7, .t (.sc (.int .i64 a.2)))]) (fun a => []) (fun a => a.1 ≤ fuel ∧ zbf a.1 x1 a.2 = some r ∧ 0 ≤ a.2) (fuel, 0) ⟨Nat.le_refl _, F0, by simp⟩ ?_
 clear F0
 rintro ⟨fu, g1⟩ ⟨hl2, F1, hn_g1⟩
 dsimp only at hl2 F1 hn_g1 ⊢
 obtain _ | fu := fu
 · rw [zbf] at F1; cases F1
 rw [zbf] at F1
 refine zb (za ?_)
 refine s_lt ?_
 refine zf (zd (zb ?_))
 refine zo F1 ?_ ?_ <;> intro C3 F2
 refine zT 0 (fun B4 => ?_)
 refine zi (zd (zb (zl (zb (za ?_)))))
 refine s_mv ?_
 obtain ⟨v5, V5, F3⟩ := zc F2
 refine z7 Bind.row V5 (Bind.row_eq _) yE23 ?_
 refine za1 yA50 yS50 ?_
 refine zY yZ50 ?_
 refine s_as ?_
 refine zap yS50 ?_
 refine zf (zd (zb ?_))
 refine zbY (α := Nat × Bool) [12, 13, 14, 15, 16, 17, 18, 19, 20, 21, 22, 23, 24, 25, 26, 27] [] [] (fun a => [(27, .t (.sc (.bool a.2)))]) (fun a => []) (fun a => a.1 ≤ fu ∧ zaY a.1 x1 g1 v5 a.2 = some r) ?_ ?_
 refine za ?_
 refine s_fa yF50_0 ?_
 refine zv yA9 ?_
 obtain ⟨v6, V6, F4⟩ := zc F3
 refine zx [] (zgu fu _ _ V6) ?_
 refine zby ?_
 refine s_mv ?_
 refine zp _ 16 F4 ?_ ?_ <;> intro C7 F5
 iterate 4 refine r_no rfl ?_
 refine zz ?_
 refine s_mv ?_
 iterate 4 refine r_no rfl ?_
 refine zz ?_
 refine zf ?_
 exact s_jn (fu, true) ⟨by first | omega | (dsimp only; omega), F5⟩
 refine s_fa yF50_1 ?_
 refine zv yA24 ?_
 obtain ⟨v8, V8, F6⟩ := zc F5
 refine zx [] (zgK fu _ _ V8) ?_
 refine zby ?_
 refine zy ?_
 refine s_mv ?_
 refine zp _ 22 F6 ?_ ?_ <;> intro C9 F7
 iterate 4 refine r_no rfl ?_
 refine zz ?_
 refine zf ?_
 exact s_jn (fu, true) ⟨by first | omega | (dsimp only; omega), F7⟩
 refine s_fa yF50_2 ?_
 refine zv yA3 ?_
 obtain ⟨v10, V10, F8⟩ := zc F7
 refine zx [] (zdb fu _ _ _ _ V10) ?_
 refine zby ?_
 refine zy ?_
 refine zf ?_
 exact s_jn (fu, (!v10)) ⟨by first | omega | (dsimp only; omega), F8⟩
 clear F3
 rintro ⟨fu, g11⟩ ⟨hl12, F4⟩
 dsimp only at hl12 F4 ⊢
 obtain _ | fu := fu
 · rw [zaY] at F4; cases F4
 rw [zaY] at F4
 refine zo F4 ?_ ?_ <;> intro C13 F5
 refine zb (za ?_)
 refine s_as ?_
 refine zf (zd (zh (zg (zj (zg (zw (zj (zg (zm ?_)))))))))
 cases F5
 exact zk [] [] Tryz.results18
 refine zi (zd (zb (za ?_)))
 refine s_mv ?_
 refine s_mv ?_
 obtain ⟨v14, V14, F6⟩ := zc F5
 refine s_sl01 Bind.row (fun y => Bind.row_len y) V14 yU23 yE23 ?_
 refine s_fn ?_
 obtain ⟨v15, V15, F7⟩ := zc F6
 refine zN [(9000, 4)] [] _ _ (zd8 fu _ _ _ V15) ?_
 refine zf (zd ?_)
 refine zo F7 ?_ ?_ <;> intro C16 F8
 refine zb (za ?_)
 refine s_as ?_
 refine zf (zd (zh (zj (zg (zw (zj (zg (zm ?_))))))))
 cases F8
 exact zk [] [] Tryz.results18
 refine zi (zX (zd (za ?_)))
 refine zQ (zbg C3 B4 hn_g1) ?_
 refine s_mv ?_
 refine zf ?_
 exact s_rn (fu, (g1 + 1)) ⟨by first | omega | (dsimp only; omega), F8, by first | omega | (dsimp only; omega)⟩
 refine zC (zr (zq (zu (zd (zb (za ?_))))))
 refine s_mv ?_
 refine zD yU23 ?_
 refine s_le ?_
 refine s_as ?_
 refine zf (zd (zh (zm ?_)))
 cases F2
 exact zk [] [] Tryz.results18
def ze8 (fuel : Nat) : Prop := ∀ (x1 : Form) (x2 : Int) (o1 : Int) (r : (Bool × Int)), zdN fuel x1 x2 o1 = some r → AC Tryz.prog 58 [.ag [.t (.sc (.int .i64 x1.kind)), .t (.sc (.str x1.name)), .t (.sc (.int .i64 x1.n)), .t (.sl (x1.scopes.map rI)), .t (.sl (x1.kids.map Form.row))], .t (.sc (.int .i64 x2)), .rf 9000 0] (objs [(9000, .box [.t (.sc (.int .i64 o1))])]) (.t (.sc (.bool r.1))) (objs [(9000, .box [.t (.sc (.int .i64 r.2))])])
theorem m_impl_formOk_st (fu : Nat) (ih_m_impl_formOk : ∀ k, k ≤ fu → ze8 k) : ze8 (fu + 1) := by
 intro x1 x2 o1 r F0
 rw [zdN] at F0
 refine AC_i [.t (.sc (.bool r.1))] Tryz.func58 rfl Tryz.ntmps58 ?_
 intro C hC
 refine zb (za ?_)
 refine zbz ?_
 refine s_as ?_
 refine zf (zd (zb (za ?_)))
 refine s_mv ?_
 refine s_nc ?_
 refine zv yA3 ?_
 refine zgS rfl ?_
 refine s_nc ?_
 refine zap yS3 ?_
 refine zf (zd (zb (zb (za ?_))))
 refine s_mv ?_
 refine s_nc ?_
 refine zv yA3 ?_
 refine s_lt ?_
 refine s_mv ?_
 refine zp _ 18 F0 ?_ ?_ <;> intro C1 F1
 refine r_no rfl (r_no rfl ?_)
 refine zz ?_
 refine zf (zd (zM rfl (zb (za ?_))))
 refine s_as ?_
 refine zf (zd (zh (zg (zm ?_))))
 cases F1
 exact zk _ [] Tryz.results58
 refine s_mv ?_
 refine s_gt ?_
 refine zy ?_
 refine zf (zd ?_)
 refine zo F1 ?_ ?_ <;> intro C2 F2
 refine zb (za ?_)
 refine s_as ?_
 refine zf (zd (zh (zg (zm ?_))))
 cases F2
 exact zk _ [] Tryz.results58
 refine zi (zd (zb (zb (za ?_))))
 refine s_fa zdF ?_
 refine zv yA3 ?_
 refine zf (zd (zl (zb (za ?_))))
 refine s_eq ?_
 refine s_as ?_
 refine zf (zd ?_)
 refine zo F2 ?_ ?_ <;> intro C3 F3
 refine zb (za ?_)
 refine s_fa zbQ ?_
 refine zv yA9 ?_
 obtain ⟨v4, V4, F4⟩ := zc F3
 refine zx [] (zgu fu _ _ V4) ?_
 refine s_mv ?_
 refine zp _ 29 F4 ?_ ?_ <;> intro C5 F5
 refine s_fa zgf ?_
 refine zv yA3 ?_
 refine s_eq ?_
 refine zz ?_
 refine s_mv ?_
 refine zp _ 34 F5 ?_ ?_ <;> intro C6 F6
 refine s_fa zeQ ?_
 refine zv yA24 ?_
 obtain ⟨v7, V7, F7⟩ := zc F6
 refine zx [] (zgK fu _ _ V7) ?_
 refine zz ?_
 refine s_mv ?_
 refine zp _ 39 F7 ?_ ?_ <;> intro C8 F8
 refine s_fa zR ?_
 refine zv yA25 ?_
 refine zD yU25 ?_
 refine s_eq ?_
 refine zz ?_
 refine s_as ?_
 refine zf (zd (zh (zj (zg (zm ?_)))))
 cases F8
 exact zk _ [] Tryz.results58
 iterate 4 refine r_no rfl ?_
 refine zy ?_
 refine s_as ?_
 refine zf (zd (zh (zj (zg (zm ?_)))))
 cases F8
 exact zk _ [] Tryz.results58
 iterate 3 refine r_no rfl ?_
 refine zy ?_
 refine s_mv ?_
 iterate 4 refine r_no rfl ?_
 refine zy ?_
 refine s_as ?_
 refine zf (zd (zh (zj (zg (zm ?_)))))
 cases F6
 exact zk _ [] Tryz.results58
 iterate 3 refine r_no rfl ?_
 refine zy ?_
 refine s_mv ?_
 iterate 3 refine r_no rfl ?_
 refine zy ?_
 refine s_mv ?_
 iterate 4 refine r_no rfl ?_
 refine zy ?_
 refine s_as ?_
 refine zf (zd (zh (zj (zg (zm ?_)))))
 cases F5
 exact zk _ [] Tryz.results58
 refine zb (za ?_)
 refine s_eq ?_
 refine s_as ?_
 refine zf (zd ?_)
 refine zo F3 ?_ ?_ <;> intro C9 F4
 refine zb (za ?_)
 refine s_fa zbQ ?_
 refine zv yA9 ?_
 refine zf1 ?_
 refine s_mv ?_
 refine zp _ 50 F4 ?_ ?_ <;> intro C10 F5
 refine s_fa zgf ?_
 refine zv yA3 ?_
 obtain ⟨v11, V11, F6⟩ := zc F5
 refine zx [] (zdb fu _ _ _ _ V11) ?_
 refine zz ?_
 refine s_mv ?_
 refine zp _ 55 F6 ?_ ?_ <;> intro C12 F7
 refine s_fa zeQ ?_
 refine zv yA24 ?_
 refine zD yU24 ?_
 refine s_eq ?_
 refine zz ?_
 refine s_mv ?_
 refine zp _ 61 F7 ?_ ?_ <;> intro C13 F8
 refine s_fa zR ?_
 refine zv yA25 ?_
 refine zD yU25 ?_
 refine s_eq ?_
 refine zz ?_
 refine s_as ?_
 refine zf (zd (zh (zj (zg (zm ?_)))))
 cases F8
 exact zk _ [] Tryz.results58
 iterate 4 refine r_no rfl ?_
 refine zy ?_
 refine s_as ?_
 refine zf (zd (zh (zj (zg (zm ?_)))))
 cases F8
 exact zk _ [] Tryz.results58
 iterate 4 refine r_no rfl ?_
 refine zy ?_
 refine s_mv ?_
 iterate 4 refine r_no rfl ?_
 refine zy ?_
 refine s_as ?_
 refine zf (zd (zh (zj (zg (zm ?_)))))
 cases F7
 exact zk _ [] Tryz.results58
 iterate 3 refine r_no rfl ?_
 refine zy ?_
 refine s_mv ?_
 iterate 4 refine r_no rfl ?_
 refine zy ?_
 refine s_mv ?_
 iterate 4 refine r_no rfl ?_
 refine zy ?_
 refine s_as ?_
 refine zf (zd (zh (zj (zg (zm ?_)))))
 cases F5
 exact zk _ [] Tryz.results58
 refine zb (za ?_)
 refine s_eq ?_
 refine s_as ?_
 refine zf (zd ?_)
 refine zo F4 ?_ ?_ <;> intro C14 F5
 refine zb (zb (za ?_))
 refine s_fa zbQ ?_
 refine zv yA9 ?_
 refine s_neS ?_
 refine s_mv ?_
 refine zp _ 72 F5 ?_ ?_ <;> intro C15 F6
 iterate 3 refine r_no rfl ?_
 refine zz ?_
 refine s_mv ?_
 iterate 4 refine r_no rfl ?_
 refine zz ?_
 refine zf (zd (zM rfl (zb (za ?_))))
 refine s_as ?_
 refine zf (zd (zh (zg (zj (zg (zm ?_))))))
 cases F6
 exact zk _ [] Tryz.results58
 refine s_fa zgf ?_
 refine zv yA3 ?_
 refine s_ne ?_
 refine zy ?_
 refine s_mv ?_
 refine zp _ 77 F6 ?_ ?_ <;> intro C16 F7
 iterate 4 refine r_no rfl ?_
 refine zz ?_
 refine zf (zd (zM rfl (zb (za ?_))))
 refine s_as ?_
 refine zf (zd (zh (zg (zj (zg (zm ?_))))))
 cases F7
 exact zk _ [] Tryz.results58
 refine s_fa zeQ ?_
 refine zv yA24 ?_
 refine zD yU24 ?_
 refine s_gt ?_
 refine zy ?_
 refine zf (zd ?_)
 refine zo F7 ?_ ?_ <;> intro C17 F8
 refine zT 79 (fun B18 => ?_)
 refine zb (za ?_)
 refine s_as ?_
 refine zf (zd (zh (zg (zj (zg (zm ?_))))))
 cases F8
 exact zk _ [] Tryz.results58
 refine zi (zd (zb (zb (za ?_))))
 refine s_fa zR ?_
 refine zv yA25 ?_
 refine zD yU25 ?_
 refine s_mv ?_
 refine zf (zd (zl ?_))
 refine zbu (β := Int × Int) [6, 8, 86, 87, 88, 89, 90, 91, 92, 93, 94, 95, 96] [9000] [8] (fun a => [(86, .t (.sc (.int .i64 a.2.1)))]) (fun a => [(9000, .box [.t (.sc (.int .i64 a.2.2))])]) (fun a => a.1 ≤ fu ∧ zb6 a.1 x1 x2 a.2.1 a.2.2 = some r ∧ 0 ≤ a.2.1) (fu, 0, (w64 (o1 - 1))) ⟨Nat.le_refl _, F8, by simp⟩ ?_
 clear F8
 rintro ⟨fu, g19, g20⟩ ⟨hl21, F9, hn_g19⟩
 dsimp only at hl21 F9 hn_g19 ⊢
 obtain _ | fu := fu
 · rw [zb6] at F9; cases F9
 rw [zb6] at F9
 refine zb (za ?_)
 refine s_lt ?_
 refine zf (zd (zb ?_))
 refine zo F9 ?_ ?_ <;> intro C22 F10
 refine zT 84 (fun B23 => ?_)
 refine zi (zd (zb (zl (zb (za ?_)))))
 obtain ⟨v24, V24, F11⟩ := zc F10
 refine z7 Form.row V24 (Form.row_eq _) yE25 ?_
 refine za1 yA27 yS27 ?_
 refine zY yZ27 ?_
 refine zap yS27 ?_
 refine zf (zd (zb (za ?_)))
 refine zI yA27 yS27 ?_
 refine s_mv ?_
 refine zQ rfl ?_
 refine s_mv ?_
 obtain ⟨v25, V25, F12⟩ := zc F11
 refine zN [(9000, 9000)] [] _ _ (ih_m_impl_formOk fu (by omega) _ _ _ _ V25) ?_
 refine zby ?_
 refine zf (zd ?_)
 refine zo F12 ?_ ?_ <;> intro C26 F13
 refine zb (za ?_)
 refine s_as ?_
 refine zf (zd (zh (zj (zg (zw (zj (zg (zj (zg (zm ?_))))))))))
 cases F13
 exact zk _ [] Tryz.results58
 refine zi (zX (zd (za ?_)))
 refine zQ (zbg C22 B23 hn_g19) ?_
 refine s_mv ?_
 refine zf ?_
 exact s_rn (fu, (g19 + 1), v25.2) ⟨by first | omega | (dsimp only; omega), F13, by first | omega | (dsimp only; omega)⟩
 refine zC (zr (zq (zu (zd (zb (za ?_))))))
 refine s_as ?_
 refine zf (zd (zh (zj (zg (zm ?_)))))
 cases F10
 exact zk _ [] Tryz.results58
 refine zi (zX (zd (zb (za ?_))))
 refine s_as ?_
 refine zf (zd (zh (zm ?_)))
 cases F5
 exact zk _ [] Tryz.results58
theorem m_impl_formOk_all (fuel : Nat) : ze8 fuel := by
 induction fuel using Nat.strongRecOn with
 | _ N ih =>
   cases N with
   | zero => exact (by intro x1 x2 o1 r h; rw [zdN] at h; cases h)
   | succ fu => exact m_impl_formOk_st fu (fun k hk => (ih k (by omega)))
theorem m_impl_formOk_ok (fuel : Nat) : ze8 fuel := (m_impl_formOk_all fuel)
def m_impl_FormValid_AC (fuel : Nat) : Prop := ∀ (x1 : Form) (r : Bool), zbt fuel x1 = some r → AC Tryz.prog 20 [.ag [.t (.sc (.int .i64 x1.kind)), .t (.sc (.str x1.name)), .t (.sc (.int .i64 x1.n)), .t (.sl (x1.scopes.map rI)), .t (.sl (x1.kids.map Form.row))]] noOb (.t (.sc (.bool r))) noOb
theorem zci (fuel : Nat) : m_impl_FormValid_AC fuel := by
 intro x1 r F0
 unfold zbt at F0
 refine AC_i [.t (.sc (.bool r))] Tryz.func20 rfl Tryz.ntmps20 ?_
 intro C hC
 refine zb (za ?_)
 refine zbz ?_
 refine s_as ?_
 refine zf (zd (zb (za ?_)))
 refine zY yZ3 ?_
 refine zap yS3 ?_
 refine zf (zd (zb (za ?_)))
 refine zI yA27 yS27 ?_
 obtain ⟨v1, V1, F1⟩ := zc F0
 refine zN [(9000, 3)] [] _ _ (m_impl_formOk_ok fuel _ _ _ _ V1) ?_
 refine s_as ?_
 refine zf (zd (zh (zm ?_)))
 cases F1
 exact zk [] [] Tryz.results20
def m_impl_isName_AC (fuel : Nat) : Prop := ∀ (x1 : Form) (r : Bool), zcL fuel x1 = some r → AC Tryz.prog 80 [.ag [.t (.sc (.int .i64 x1.kind)), .t (.sc (.str x1.name)), .t (.sc (.int .i64 x1.n)), .t (.sl (x1.scopes.map rI)), .t (.sl (x1.kids.map Form.row))]] noOb (.t (.sc (.bool r))) noOb
theorem zeb (fuel : Nat) : m_impl_isName_AC fuel := by
 intro x1 r F0
 unfold zcL at F0
 refine AC_i [.t (.sc (.bool r))] Tryz.func80 rfl Tryz.ntmps80 ?_
 intro C hC
 refine zb (za ?_)
 refine zbz ?_
 refine s_as ?_
 refine zf (zd (zb (za ?_)))
 refine s_fa zdF ?_
 refine zv yA3 ?_
 refine s_eq ?_
 refine s_mv ?_
 refine zp _ 6 F0 ?_ ?_ <;> intro C1 F1
 refine zI yA27 yS27 ?_
 obtain ⟨v2, V2, F2⟩ := zc F1
 refine zx [] (zci fuel _ _ V2) ?_
 refine zz ?_
 refine s_as ?_
 refine zf (zd (zh (zm ?_)))
 cases F2
 exact zk [] [] Tryz.results80
 refine r_no rfl (r_no rfl ?_)
 refine zy ?_
 refine s_as ?_
 refine zf (zd (zh (zm ?_)))
 cases F1
 exact zk [] [] Tryz.results80
def zdi (fuel : Nat) : Prop := ∀ (x1 : Form) (x2 : Form) (r : Bool), zaC fuel x1 x2 = some r → AC Tryz.prog 11 [.ag [.t (.sc (.int .i64 x1.kind)), .t (.sc (.str x1.name)), .t (.sc (.int .i64 x1.n)), .t (.sl (x1.scopes.map rI)), .t (.sl (x1.kids.map Form.row))], .ag [.t (.sc (.int .i64 x2.kind)), .t (.sc (.str x2.name)), .t (.sc (.int .i64 x2.n)), .t (.sl (x2.scopes.map rI)), .t (.sl (x2.kids.map Form.row))]] noOb (.t (.sc (.bool r))) noOb
def za5 (fuel : Nat) : Prop := ∀ (x1 : (List Form)) (x2 : (List Form)) (r : Bool), zaS fuel x1 x2 = some r → AC Tryz.prog 35 [.t (.sl (x1.map Form.row)), .t (.sl (x2.map Form.row)), .fn 11 []] noOb (.t (.sc (.bool r))) noOb
theorem m_impl_FormSame_st (fu : Nat) (ih_m_impl_FormSame : ∀ k, k ≤ fu → zdi k) (ih_m_slices_EqualFunc_Form_FormSame : ∀ k, k ≤ fu → za5 k) : zdi (fu + 1) := by
 intro x1 x2 r F0
 rw [zaC] at F0
 refine AC_i [.t (.sc (.bool r))] Tryz.func11 rfl Tryz.ntmps11 ?_
 intro C hC
 refine zb (za ?_)
 refine zbz ?_
 refine zbz ?_
 refine s_as ?_
 refine zf (zd (zb (za ?_)))
 refine s_fa zdF ?_
 refine zv yA3 ?_
 refine s_fa zdF ?_
 refine zv yA3 ?_
 refine s_eq ?_
 refine s_mv ?_
 refine zp _ 10 F0 ?_ ?_ <;> intro C1 F1
 refine s_fa zbQ ?_
 refine zv yA9 ?_
 refine s_fa zbQ ?_
 refine zv yA9 ?_
 refine zf1 ?_
 refine zz ?_
 refine s_mv ?_
 refine zp _ 17 F1 ?_ ?_ <;> intro C2 F2
 refine s_fa zgf ?_
 refine zv yA3 ?_
 refine s_fa zgf ?_
 refine zv yA3 ?_
 refine s_eq ?_
 refine zz ?_
 refine s_mv ?_
 refine zp _ 24 F2 ?_ ?_ <;> intro C3 F3
 refine s_fa zeQ ?_
 refine zv yA24 ?_
 refine s_fa zeQ ?_
 refine zv yA24 ?_
 obtain ⟨v4, V4, F4⟩ := zc F3
 refine zx [] (zf4 fu _ _ _ V4) ?_
 refine zz ?_
 refine s_mv ?_
 refine zp _ 31 F4 ?_ ?_ <;> intro C5 F5
 refine s_fa zR ?_
 refine zv yA25 ?_
 refine s_fa zR ?_
 refine zv yA25 ?_
 obtain ⟨v6, V6, F6⟩ := zc F5
 refine zx [] (ih_m_slices_EqualFunc_Form_FormSame fu (by omega) _ _ _ V6) ?_
 refine zz ?_
 refine s_as ?_
 refine zf (zd (zh (zm ?_)))
 cases F6
 exact zk [] [] Tryz.results11
 iterate 5 refine r_no rfl ?_
 refine zy ?_
 refine s_as ?_
 refine zf (zd (zh (zm ?_)))
 cases F5
 exact zk [] [] Tryz.results11
 iterate 5 refine r_no rfl ?_
 refine zy ?_
 refine s_mv ?_
 iterate 5 refine r_no rfl ?_
 refine zy ?_
 refine s_as ?_
 refine zf (zd (zh (zm ?_)))
 cases F3
 exact zk [] [] Tryz.results11
 iterate 5 refine r_no rfl ?_
 refine zy ?_
 refine s_mv ?_
 iterate 5 refine r_no rfl ?_
 refine zy ?_
 refine s_mv ?_
 iterate 5 refine r_no rfl ?_
 refine zy ?_
 refine s_as ?_
 refine zf (zd (zh (zm ?_)))
 cases F2
 exact zk [] [] Tryz.results11
 iterate 5 refine r_no rfl ?_
 refine zy ?_
 refine s_mv ?_
 iterate 5 refine r_no rfl ?_
 refine zy ?_
 refine s_mv ?_
 iterate 5 refine r_no rfl ?_
 refine zy ?_
 refine s_mv ?_
 iterate 5 refine r_no rfl ?_
 refine zy ?_
 refine s_as ?_
 refine zf (zd (zh (zm ?_)))
 cases F1
 exact zk [] [] Tryz.results11
theorem zfi (fu : Nat) (ih_m_impl_FormSame : ∀ k, k ≤ fu → zdi k) (ih_m_slices_EqualFunc_Form_FormSame : ∀ k, k ≤ fu → za5 k) : za5 (fu + 1) := by
 intro x1 x2 r F0
 rw [zaS] at F0
 refine AC_i [.t (.sc (.bool r))] Tryz.func35 rfl Tryz.ntmps35 ?_
 intro C hC
 refine zb (za ?_)
 refine s_as ?_
 refine zf (zd (zb (zb (za ?_))))
 refine s_mv ?_
 refine zD yU25 ?_
 refine s_mv ?_
 refine zD yU25 ?_
 refine s_ne ?_
 refine zf (zd ?_)
 refine zo F0 ?_ ?_ <;> intro C1 F1
 refine zb (za ?_)
 refine s_as ?_
 refine zf (zd (zh (zg (zm ?_))))
 cases F1
 exact zk [] [] Tryz.results35
 refine zi (zd (zb (zb (za ?_))))
 refine s_mv ?_
 refine zD yU25 ?_
 refine s_mv ?_
 refine zf (zd (zl ?_))
 refine zbu (β := Int) [6, 7, 8, 9, 17, 18, 19, 20, 21, 22, 23, 24, 25, 26, 27, 28, 29, 30, 31] [] [8, 9] (fun a => [(17, .t (.sc (.int .i64 a.2)))]) (fun a => []) (fun a => a.1 ≤ fu ∧ zU a.1 x1 x2 a.2 = some r ∧ 0 ≤ a.2) (fu, 0) ⟨Nat.le_refl _, F1, by simp⟩ ?_
 clear F1
 rintro ⟨fu, g2⟩ ⟨hl3, F2, hn_g2⟩
 dsimp only at hl3 F2 hn_g2 ⊢
 obtain _ | fu := fu
 · rw [zU] at F2; cases F2
 rw [zU] at F2
 refine zb (za ?_)
 refine s_lt ?_
 refine zf (zd (zb ?_))
 refine zo F2 ?_ ?_ <;> intro C4 F3
 refine zT 0 (fun B5 => ?_)
 refine zi (zd (zb (zl (zb (za ?_)))))
 refine s_mv ?_
 obtain ⟨v6, V6, F4⟩ := zc F3
 refine z7 Form.row V6 (Form.row_eq _) yE25 ?_
 refine za1 yA27 yS27 ?_
 refine zY yZ27 ?_
 refine s_as ?_
 refine zap yS27 ?_
 refine zf (zd (zb (za ?_)))
 refine s_mv ?_
 refine s_mv ?_
 obtain ⟨v7, V7, F5⟩ := zc F4
 refine z7 Form.row V7 (Form.row_eq _) yE25 ?_
 refine za1 yA27 yS27 ?_
 refine zY yZ27 ?_
 refine zap yS27 ?_
 refine zf (zd (zb (za ?_)))
 refine s_mv ?_
 refine zI yA27 yS27 ?_
 refine zI yA27 yS27 ?_
 obtain ⟨v8, V8, F6⟩ := zc F5
 refine zx [] (ih_m_impl_FormSame fu (by omega) _ _ _ V8) ?_
 refine zby ?_
 refine zf (zd ?_)
 refine zo F6 ?_ ?_ <;> intro C9 F7
 refine zb (za ?_)
 refine s_as ?_
 refine zf (zd (zh (zj (zg (zw (zj (zg (zm ?_))))))))
 cases F7
 exact zk [] [] Tryz.results35
 refine zi (zX (zd (za ?_)))
 refine zQ (zbg C4 B5 hn_g2) ?_
 refine s_mv ?_
 refine zf ?_
 exact s_rn (fu, (g2 + 1)) ⟨by first | omega | (dsimp only; omega), F7, by first | omega | (dsimp only; omega)⟩
 refine zC (zr (zq (zu (zd (zb (za ?_))))))
 refine s_as ?_
 refine zf (zd (zh (zm ?_)))
 cases F3
 exact zk [] [] Tryz.results35
theorem m_impl_FormSame_all (fuel : Nat) : zdi fuel ∧ za5 fuel := by
 induction fuel using Nat.strongRecOn with
 | _ N ih =>
   cases N with
   | zero => exact ⟨(by intro x1 x2 r h; rw [zaC] at h; cases h), (by intro x1 x2 r h; rw [zaS] at h; cases h)⟩
   | succ fu => exact ⟨m_impl_FormSame_st fu (fun k hk => (ih k (by omega)).1) (fun k hk => (ih k (by omega)).2), zfi fu (fun k hk => (ih k (by omega)).1) (fun k hk => (ih k (by omega)).2)⟩
theorem zbW (fuel : Nat) : zdi fuel := (m_impl_FormSame_all fuel).1
def m_impl_isIn_1_AC (fuel : Nat) : Prop := ∀ (x1 : Form) (o1 : Form) (r : Bool), zfD fuel x1 o1 = some r → AC Tryz.prog 110 [.ag [.t (.sc (.int .i64 x1.kind)), .t (.sc (.str x1.name)), .t (.sc (.int .i64 x1.n)), .t (.sl (x1.scopes.map rI)), .t (.sl (x1.kids.map Form.row))], .rf 9000 0] (objs [(9000, .box [.t (.sc (.int .i64 o1.kind)), .t (.sc (.str o1.name)), .t (.sc (.int .i64 o1.n)), .t (.sl (o1.scopes.map rI)), .t (.sl (o1.kids.map Form.row))])]) (.t (.sc (.bool r))) (objs [(9000, .box [.t (.sc (.int .i64 o1.kind)), .t (.sc (.str o1.name)), .t (.sc (.int .i64 o1.n)), .t (.sl (o1.scopes.map rI)), .t (.sl (o1.kids.map Form.row))])])
theorem m_impl_isIn_1_ok (fuel : Nat) : m_impl_isIn_1_AC fuel := by
 intro x1 o1 r F0
 unfold zfD at F0
 refine AC_i [.t (.sc (.bool r))] Tryz.func110 rfl Tryz.ntmps110 ?_
 intro C hC
 refine zb (za ?_)
 refine zbz ?_
 refine s_as ?_
 refine zf (zd (zb (za ?_)))
 refine zI yA27 yS27 ?_
 refine zI yA27 yS27 ?_
 obtain ⟨v1, V1, F1⟩ := zc F0
 refine zx [] (zbW fuel _ _ _ V1) ?_
 refine s_as ?_
 refine zf (zd (zh (zm ?_)))
 cases F1
 exact zk _ [] Tryz.results110
def zfA (fuel : Nat) : Prop := ∀ (x1 : (List Form)) (o1 : Form) (r : Int), zbB fuel x1 o1 = some r → AC Tryz.prog 113 [.t (.sl (x1.map Form.row)), .fn 110 [.rf 9000 0]] (objs [(9000, .box [.t (.sc (.int .i64 o1.kind)), .t (.sc (.str o1.name)), .t (.sc (.int .i64 o1.n)), .t (.sl (o1.scopes.map rI)), .t (.sl (o1.kids.map Form.row))])]) (.t (.sc (.int .i64 r))) (objs [(9000, .box [.t (.sc (.int .i64 o1.kind)), .t (.sc (.str o1.name)), .t (.sc (.int .i64 o1.n)), .t (.sl (o1.scopes.map rI)), .t (.sl (o1.kids.map Form.row))])])
theorem zfz (fuel : Nat) : zfA fuel := by
 intro x1 o1 r F0
 unfold zbB at F0
 refine AC_i [.t (.sc (.int .i64 r))] Tryz.func113 rfl Tryz.ntmps113 ?_
 intro C hC
 refine zb (za ?_)
 refine s_as ?_
 refine zf (zd (zb (zb (za ?_))))
 refine s_mv ?_
 refine zD yU25 ?_
 refine s_mv ?_
 refine zf (zd (zl ?_))
 refine zbu (β := Int) [4, 5, 8, 9, 10, 11, 12, 13, 14, 15, 16, 17, 18] [] [] (fun a => [(8, .t (.sc (.int .i64 a.2)))]) (fun a => []) (fun a => a.1 ≤ fuel ∧ zab a.1 x1 o1 a.2 = some r ∧ 0 ≤ a.2) (fuel, 0) ⟨Nat.le_refl _, F0, by simp⟩ ?_
 clear F0
 rintro ⟨fu, g1⟩ ⟨hl2, F1, hn_g1⟩
 dsimp only at hl2 F1 hn_g1 ⊢
 obtain _ | fu := fu
 · rw [zab] at F1; cases F1
 rw [zab] at F1
 refine zb (za ?_)
 refine s_lt ?_
 refine zf (zd (zb ?_))
 refine zo F1 ?_ ?_ <;> intro C3 F2
 refine zT 0 (fun B4 => ?_)
 refine zi (zd (zb (zl (zb (za ?_)))))
 refine s_mv ?_
 refine s_as ?_
 refine zf (zd (zb (za ?_)))
 iterate 3 refine s_mv ?_
 obtain ⟨v5, V5, F3⟩ := zc F2
 refine z7 Form.row V5 (Form.row_eq _) yE25 ?_
 refine za1 yA27 yS27 ?_
 obtain ⟨v6, V6, F4⟩ := zc F3
 refine zN [(9000, 9000)] [] _ _ (m_impl_isIn_1_ok fu _ _ _ V6) ?_
 refine zf (zd ?_)
 refine zo F4 ?_ ?_ <;> intro C7 F5
 refine zb (za ?_)
 refine s_mv ?_
 refine s_as ?_
 refine zf (zd (zh (zj (zg (zw (zj (zg (zm ?_))))))))
 cases F5
 exact zk _ [] Tryz.results113
 refine zi (zX (zd (za ?_)))
 refine zQ (zbg C3 B4 hn_g1) ?_
 refine s_mv ?_
 refine zf ?_
 exact s_rn (fu, (g1 + 1)) ⟨by first | omega | (dsimp only; omega), F5, by first | omega | (dsimp only; omega)⟩
 refine zC (zr (zq (zu (zd (zb (za ?_))))))
 refine s_as ?_
 refine zf (zd (zh (zm ?_)))
 cases F2
 exact zk _ [] Tryz.results113
def zeX (fuel : Nat) : Prop := ∀ (x1 : (List Form)) (o1 : Form) (r : Bool), zbk fuel x1 o1 = some r → AC Tryz.prog 109 [.t (.sl (x1.map Form.row)), .fn 110 [.rf 9000 0]] (objs [(9000, .box [.t (.sc (.int .i64 o1.kind)), .t (.sc (.str o1.name)), .t (.sc (.int .i64 o1.n)), .t (.sl (o1.scopes.map rI)), .t (.sl (o1.kids.map Form.row))])]) (.t (.sc (.bool r))) (objs [(9000, .box [.t (.sc (.int .i64 o1.kind)), .t (.sc (.str o1.name)), .t (.sc (.int .i64 o1.n)), .t (.sl (o1.scopes.map rI)), .t (.sl (o1.kids.map Form.row))])])
theorem zeW (fuel : Nat) : zeX fuel := by
 intro x1 o1 r F0
 unfold zbk at F0
 refine AC_i [.t (.sc (.bool r))] Tryz.func109 rfl Tryz.ntmps109 ?_
 intro C hC
 refine zb (za ?_)
 refine s_as ?_
 refine zf (zd (zb (za ?_)))
 refine s_mv ?_
 refine s_mv ?_
 obtain ⟨v1, V1, F1⟩ := zc F0
 refine zN [(9000, 9000)] [] _ _ (zfz fuel _ _ _ V1) ?_
 refine s_ge ?_
 refine s_as ?_
 refine zf (zd (zh (zm ?_)))
 cases F1
 exact zk _ [] Tryz.results109
def m_impl_isIn_AC (fuel : Nat) : Prop := ∀ (x1 : (List Form)) (x2 : Form) (r : Bool), zew fuel x1 x2 = some r → AC Tryz.prog 57 [.t (.sl (x1.map Form.row)), .ag [.t (.sc (.int .i64 x2.kind)), .t (.sc (.str x2.name)), .t (.sc (.int .i64 x2.n)), .t (.sl (x2.scopes.map rI)), .t (.sl (x2.kids.map Form.row))]] noOb (.t (.sc (.bool r))) noOb
theorem zf0 (fuel : Nat) : m_impl_isIn_AC fuel := by
 intro x1 x2 r F0
 unfold zew at F0
 refine AC_i [.t (.sc (.bool r))] Tryz.func57 rfl Tryz.ntmps57 ?_
 intro C hC
 refine zb (za ?_)
 refine zbz ?_
 refine s_as ?_
 refine zf (zd (zb (za ?_)))
 refine s_mv ?_
 refine s_fn ?_
 obtain ⟨v1, V1, F1⟩ := zc F0
 refine zN [(9000, 3)] [] _ _ (zeW fuel _ _ _ V1) ?_
 refine s_as ?_
 refine zf (zd (zh (zm ?_)))
 cases F1
 exact zk [] [] Tryz.results57
end Go.Abs
