/- A part of the proof: what the functions that the law calls answer, as pure values. -/
import Derived.Test.YtilpcjgklfjdgaaGreatKc2e0a31646d6
import Derived.Test.YtilpcjgklfjdgaaGreatKee9727030f10
import Derived.Test.YtilpcjgklfjdgaaGreatK1634ef1acfe6
import Derived.Test.YtilpcjgklfjdgaaGreatKfdc0d9ae01a4
import Derived.Test.YtilpcjgklfjdgaaGreatK9901edc955de
import Derived.Test.YtilpcjgklfjdgaaGreatK1e8eb432d4fb
set_option linter.unusedSimpArgs false
set_option linter.unusedVariables false
set_option maxRecDepth 100000
set_option maxHeartbeats 4000000
namespace Go.Abs
open Go.Proofs
def m_impl_dotsAt_AC (fuel : Nat) : Prop := ∀ (x1 : (List Form)) (r : Int), zgv fuel x1 = some r → AC Tryz.prog 81 [.t (.sl (x1.map Form.row))] noOb (.t (.sc (.int .i64 r))) noOb
theorem m_impl_dotsAt_ok (fuel : Nat) : m_impl_dotsAt_AC fuel := by
 intro x1 r F0
 unfold zgv at F0
 refine AC_i [.t (.sc (.int .i64 r))] Tryz.func81 rfl Tryz.ntmps81 ?_
 intro C hC
 refine zb (za ?_)
 refine s_as ?_
 refine zf (zd (zb (za ?_)))
 refine s_mv ?_
 obtain ⟨v1, V1, F1⟩ := zc F0
 refine zv [] (zft fuel _ _ V1) ?_
 refine s_as ?_
 refine zf (zd (zh (zn ?_)))
 cases F1
 exact zl [] [] Tryz.results81
def zfq (fuel : Nat) : Prop := ∀ (x1 : Form) (x2 : Bool) (r : Bool), zdC fuel x1 x2 = some r → AC Tryz.prog 135 [.ag [.t (.sc (.int .i64 x1.kind)), .t (.sc (.str x1.name)), .t (.sc (.int .i64 x1.n)), .t (.sl (x1.scopes.map rI)), .t (.sl (x1.kids.map Form.row))], .t (.sc (.bool x2))] noOb (.t (.sc (.bool r))) noOb
theorem m_impl_dotsOk_st (fu : Nat) (ih_m_impl_dotsOk : ∀ k, k ≤ fu → zfq k) : zfq (fu + 1) := by
 intro x1 x2 r F0
 rw [zdC] at F0
 refine AC_i [.t (.sc (.bool r))] Tryz.func135 rfl Tryz.ntmps135 ?_
 intro C hC
 refine zb (za ?_)
 refine zbh ?_
 refine s_as ?_
 refine zf (zd (zb (zb (za ?_))))
 refine s_fa zH ?_
 refine zu yA24 ?_
 refine zE yU24 ?_
 refine s_mv ?_
 refine zf (zd (zk ?_))
 refine za1 (β := Int) [4, 5, 6, 10, 11, 12, 13, 14, 15, 16, 17, 18, 19, 20, 21, 22, 23, 24, 25, 26, 27, 28, 29, 30, 31, 32, 33, 34, 35, 36, 37, 38, 39, 40, 41, 42, 43] [] [6] (fun a => [(10, .t (.sc (.int .i64 a.2)))]) (fun a => []) (fun a => a.1 ≤ fu ∧ zbx a.1 x1 x2 a.2 = some r ∧ 0 ≤ a.2) (fu, 0) ⟨Nat.le_refl _, F0, by simp⟩ ?_
 clear F0
 rintro ⟨fu, g1⟩ ⟨hl2, F1, hn_g1⟩
 dsimp only at hl2 F1 hn_g1 ⊢
 obtain _ | fu := fu
 · rw [zbx] at F1; cases F1
 rw [zbx] at F1
 refine zb (za ?_)
 refine s_lt ?_
 refine zf (zd (zb ?_))
 refine zm F1 ?_ ?_ <;> intro C3 F2
 refine zV 8 (fun B4 => ?_)
 refine zi (zd (zb (zk (zb (za ?_)))))
 refine s_mv ?_
 obtain ⟨v5, V5, F3⟩ := zc F2
 refine zN Form.row V5 (Form.row_eq _) yE24 ?_
 refine zaq yA32 yS32 ?_
 refine z6 yZ32 ?_
 refine s_as ?_
 refine zac yS32 ?_
 refine zf (zd (zb (za ?_)))
 refine zK yA32 yS32 ?_
 obtain ⟨v6, V6, F4⟩ := zc F3
 refine zv [] (zcK fu _ _ _ V6) ?_
 refine zf (zd ?_)
 refine zm F4 ?_ ?_ <;> intro C7 F5
 refine zb (za ?_)
 refine s_mv ?_
 refine s_eq ?_
 refine s_mv ?_
 refine zo _ 19 F5 ?_ ?_ <;> intro C8 F6
 iterate 7 refine r_no rfl ?_
 refine zA ?_
 refine s_mv ?_
 iterate 9 refine r_no rfl ?_
 refine zA ?_
 refine zf (zd (zM rfl (zb (za ?_))))
 refine s_as ?_
 refine zf (zd (zh (zj (zg (zx (zj (zg (zn ?_))))))))
 cases F6
 exact zl [] [] Tryz.results135
 refine s_fa zH ?_
 refine zu yA24 ?_
 refine s_mv ?_
 refine zg1 rfl ?_
 obtain ⟨v9, V9, F7⟩ := zc F6
 refine zN Form.row V9 (Form.row_eq _) yE24 ?_
 refine zaq yA32 yS32 ?_
 obtain ⟨v10, V10, F8⟩ := zc F7
 refine zv [] (zcK fu _ _ _ V10) ?_
 refine zB ?_
 refine s_mv ?_
 refine zo _ 28 F8 ?_ ?_ <;> intro C11 F9
 iterate 9 refine r_no rfl ?_
 refine zA ?_
 refine zf (zd (zM rfl (zb (za ?_))))
 refine s_as ?_
 refine zf (zd (zh (zj (zg (zx (zj (zg (zn ?_))))))))
 cases F9
 exact zl [] [] Tryz.results135
 refine s_mv ?_
 refine s_mv ?_
 refine zo _ 30 F9 ?_ ?_ <;> intro C12 F10
 refine s_fa zH ?_
 refine zu yA24 ?_
 refine s_mv ?_
 obtain ⟨v13, V13, F11⟩ := zc F10
 refine s_sl01 Form.row (fun y => Form.row_len y) V13 yU24 yE24 ?_
 obtain ⟨v14, V14, F12⟩ := zc F11
 refine zv [] (m_impl_dotsAt_ok fu _ _ V14) ?_
 refine s_ge ?_
 refine zA ?_
 refine zB ?_
 refine zf (zd ?_)
 refine zm F12 ?_ ?_ <;> intro C15 F13
 refine zb (za ?_)
 refine s_as ?_
 refine zf (zd (zh (zj (zg (zx (zj (zg (zn ?_))))))))
 cases F13
 exact zl [] [] Tryz.results135
 refine zi (z5 (zd (za ?_)))
 refine zO (zaA C3 B4 hn_g1) ?_
 refine s_mv ?_
 refine zf ?_
 exact s_rn (fu, (g1 + 1)) ⟨by first | omega | (dsimp only; omega), F13, by first | omega | (dsimp only; omega)⟩
 iterate 6 refine r_no rfl ?_
 refine zB ?_
 refine zB ?_
 refine zf (zd (zaI rfl (zi (z5 (zd (za ?_))))))
 refine zO (zaA C3 B4 hn_g1) ?_
 refine s_mv ?_
 refine zf ?_
 exact s_rn (fu, (g1 + 1)) ⟨by first | omega | (dsimp only; omega), F10, by first | omega | (dsimp only; omega)⟩
 refine zb (za ?_)
 refine zK yA32 yS32 ?_
 refine s_mv ?_
 obtain ⟨v16, V16, F6⟩ := zc F5
 refine zv [] (ih_m_impl_dotsOk fu (by omega) _ _ _ V16) ?_
 refine zby ?_
 refine zf (zd ?_)
 refine zm F6 ?_ ?_ <;> intro C17 F7
 refine zb (za ?_)
 refine s_as ?_
 refine zf (zd (zh (zj (zg (zx (zj (zg (zn ?_))))))))
 cases F7
 exact zl [] [] Tryz.results135
 refine zi (z5 (zd (za ?_)))
 refine zO (zaA C3 B4 hn_g1) ?_
 refine s_mv ?_
 refine zf ?_
 exact s_rn (fu, (g1 + 1)) ⟨by first | omega | (dsimp only; omega), F7, by first | omega | (dsimp only; omega)⟩
 refine zz (zq (zp (zr (zd (zb (za ?_))))))
 refine s_as ?_
 refine zf (zd (zh (zn ?_)))
 cases F2
 exact zl [] [] Tryz.results135
theorem m_impl_dotsOk_all (fuel : Nat) : zfq fuel := by
 induction fuel using Nat.strongRecOn with
 | _ N ih =>
   cases N with
   | zero => exact (by intro x1 x2 r h; rw [zdC] at h; cases h)
   | succ fu => exact m_impl_dotsOk_st fu (fun k hk => (ih k (by omega)))
theorem m_impl_dotsOk_ok (fuel : Nat) : zfq fuel := (m_impl_dotsOk_all fuel)
def m_impl_depthIn_1_AC (fuel : Nat) : Prop := ∀ (x1 : Form) (o1 : Form) (r : Bool), zem fuel x1 o1 = some r → AC Tryz.prog 173 [.ag [.t (.sc (.int .i64 x1.kind)), .t (.sc (.str x1.name)), .t (.sc (.int .i64 x1.n)), .t (.sl (x1.scopes.map rI)), .t (.sl (x1.kids.map Form.row))], .rf 9000 0] (objs [(9000, .box [.t (.sc (.int .i64 o1.kind)), .t (.sc (.str o1.name)), .t (.sc (.int .i64 o1.n)), .t (.sl (o1.scopes.map rI)), .t (.sl (o1.kids.map Form.row))])]) (.t (.sc (.bool r))) (objs [(9000, .box [.t (.sc (.int .i64 o1.kind)), .t (.sc (.str o1.name)), .t (.sc (.int .i64 o1.n)), .t (.sl (o1.scopes.map rI)), .t (.sl (o1.kids.map Form.row))])])
theorem m_impl_depthIn_1_ok (fuel : Nat) : m_impl_depthIn_1_AC fuel := by
 intro x1 o1 r F0
 unfold zem at F0
 refine AC_i [.t (.sc (.bool r))] Tryz.func173 rfl Tryz.ntmps173 ?_
 intro C hC
 refine zb (za ?_)
 refine zbh ?_
 refine s_as ?_
 refine zf (zd (zb (za ?_)))
 refine zK yA32 yS32 ?_
 refine zK yA32 yS32 ?_
 obtain ⟨v1, V1, F1⟩ := zc F0
 refine zv [] (zbE fuel _ _ _ V1) ?_
 refine s_as ?_
 refine zf (zd (zh (zn ?_)))
 cases F1
 exact zl _ [] Tryz.results173
def ze4 (fuel : Nat) : Prop := ∀ (x1 : (List Form)) (o1 : Form) (r : Int), zbf fuel x1 o1 = some r → AC Tryz.prog 130 [.t (.sl (x1.map Form.row)), .fn 173 [.rf 9000 0]] (objs [(9000, .box [.t (.sc (.int .i64 o1.kind)), .t (.sc (.str o1.name)), .t (.sc (.int .i64 o1.n)), .t (.sl (o1.scopes.map rI)), .t (.sl (o1.kids.map Form.row))])]) (.t (.sc (.int .i64 r))) (objs [(9000, .box [.t (.sc (.int .i64 o1.kind)), .t (.sc (.str o1.name)), .t (.sc (.int .i64 o1.n)), .t (.sl (o1.scopes.map rI)), .t (.sl (o1.kids.map Form.row))])])
theorem ze3 (fuel : Nat) : ze4 fuel := by
 intro x1 o1 r F0
 unfold zbf at F0
 refine AC_i [.t (.sc (.int .i64 r))] Tryz.func130 rfl Tryz.ntmps130 ?_
 intro C hC
 refine zb (za ?_)
 refine s_as ?_
 refine zf (zd (zb (zb (za ?_))))
 refine s_mv ?_
 refine zE yU24 ?_
 refine s_mv ?_
 refine zf (zd (zk ?_))
 refine za1 (β := Int) [4, 5, 8, 9, 10, 11, 12, 13, 14, 15, 16, 17, 18] [] [] (fun a => [(8, .t (.sc (.int .i64 a.2)))]) (fun a => []) (fun a => a.1 ≤ fuel ∧ z7 a.1 x1 o1 a.2 = some r ∧ 0 ≤ a.2) (fuel, 0) ⟨Nat.le_refl _, F0, by simp⟩ ?_
 clear F0
 rintro ⟨fu, g1⟩ ⟨hl2, F1, hn_g1⟩
 dsimp only at hl2 F1 hn_g1 ⊢
 obtain _ | fu := fu
 · rw [z7] at F1; cases F1
 rw [z7] at F1
 refine zb (za ?_)
 refine s_lt ?_
 refine zf (zd (zb ?_))
 refine zm F1 ?_ ?_ <;> intro C3 F2
 refine zV 0 (fun B4 => ?_)
 refine zi (zd (zb (zk (zb (za ?_)))))
 refine s_mv ?_
 refine s_as ?_
 refine zf (zd (zb (za ?_)))
 iterate 3 refine s_mv ?_
 obtain ⟨v5, V5, F3⟩ := zc F2
 refine zN Form.row V5 (Form.row_eq _) yE24 ?_
 refine zaq yA32 yS32 ?_
 obtain ⟨v6, V6, F4⟩ := zc F3
 refine zZ [(9000, 9000)] [] _ _ (m_impl_depthIn_1_ok fu _ _ _ V6) ?_
 refine zf (zd ?_)
 refine zm F4 ?_ ?_ <;> intro C7 F5
 refine zb (za ?_)
 refine s_mv ?_
 refine s_as ?_
 refine zf (zd (zh (zj (zg (zx (zj (zg (zn ?_))))))))
 cases F5
 exact zl _ [] Tryz.results130
 refine zi (z5 (zd (za ?_)))
 refine zO (zaA C3 B4 hn_g1) ?_
 refine s_mv ?_
 refine zf ?_
 exact s_rn (fu, (g1 + 1)) ⟨by first | omega | (dsimp only; omega), F5, by first | omega | (dsimp only; omega)⟩
 refine zz (zq (zp (zr (zd (zb (za ?_))))))
 refine s_as ?_
 refine zf (zd (zh (zn ?_)))
 cases F2
 exact zl _ [] Tryz.results130
def m_impl_depthIn_AC (fuel : Nat) : Prop := ∀ (x1 : (List Form)) (x2 : (List Int)) (x3 : Form) (r : Int), zeu fuel x1 x2 x3 = some r → AC Tryz.prog 159 [.t (.sl (x1.map Form.row)), .t (.sl (x2.map rI)), .ag [.t (.sc (.int .i64 x3.kind)), .t (.sc (.str x3.name)), .t (.sc (.int .i64 x3.n)), .t (.sl (x3.scopes.map rI)), .t (.sl (x3.kids.map Form.row))]] noOb (.t (.sc (.int .i64 r))) noOb
theorem zhb (fuel : Nat) : m_impl_depthIn_AC fuel := by
 intro x1 x2 x3 r F0
 unfold zeu at F0
 refine AC_i [.t (.sc (.int .i64 r))] Tryz.func159 rfl Tryz.ntmps159 ?_
 intro C hC
 refine zb (za ?_)
 refine zbh ?_
 refine s_as ?_
 refine zf (zd (zb (zb (za ?_))))
 refine s_fa zc2 ?_
 refine zu yA3 ?_
 refine s_ne ?_
 refine zf (zd ?_)
 refine zm F0 ?_ ?_ <;> intro C1 F1
 refine zb (za ?_)
 refine s_as ?_
 refine zf (zd (zh (zg (zn ?_))))
 cases F1
 exact zl [] [] Tryz.results159
 refine zi (zd (zb (za ?_)))
 refine s_mv ?_
 refine s_fn ?_
 obtain ⟨v2, V2, F2⟩ := zc F1
 refine zZ [(9000, 5)] [] _ _ (ze3 fuel _ _ _ V2) ?_
 refine s_as ?_
 refine zf (zd (zb (zb (za ?_))))
 refine s_mv ?_
 refine s_lt ?_
 refine zf (zd ?_)
 refine zm F2 ?_ ?_ <;> intro C3 F3
 refine zb (za ?_)
 refine s_as ?_
 refine zf (zd (zh (zg (zn ?_))))
 cases F3
 exact zl [] [] Tryz.results159
 refine zi (zd (zb (za ?_)))
 refine s_mv ?_
 refine s_mv ?_
 obtain ⟨v4, V4, F4⟩ := zc F3
 refine zN rI V4 rfl yE27 ?_
 refine zu yA3 ?_
 refine s_as ?_
 refine zf (zd (zh (zn ?_)))
 cases F4
 exact zl [] [] Tryz.results159
def m_impl_rowsOk_1_AC (fuel : Nat) : Prop := ∀ (x1 : Form) (o1 : Bool) (o2 : (List Form)) (o3 : (List Int)) (o4 : Int) (r : Bool), zfQ fuel x1 o1 o2 o3 o4 = some r → AC Tryz.prog 160 [.ag [.t (.sc (.int .i64 x1.kind)), .t (.sc (.str x1.name)), .t (.sc (.int .i64 x1.n)), .t (.sl (x1.scopes.map rI)), .t (.sl (x1.kids.map Form.row))], .rf 9000 0, .rf 9001 0, .rf 9002 0, .rf 9003 0] (objs [(9000, .box [.t (.sc (.bool o1))]), (9001, .box [.t (.sl (o2.map Form.row))]), (9002, .box [.t (.sl (o3.map rI))]), (9003, .box [.t (.sc (.int .i64 o4))])]) (.tp []) (objs [(9000, .box [.t (.sc (.bool r))]), (9001, .box [.t (.sl (o2.map Form.row))]), (9002, .box [.t (.sl (o3.map rI))]), (9003, .box [.t (.sc (.int .i64 o4))])])
theorem m_impl_rowsOk_1_ok (fuel : Nat) : m_impl_rowsOk_1_AC fuel := by
 intro x1 o1 o2 o3 o4 r F0
 unfold zfQ at F0
 refine AC_i [] Tryz.func160 rfl Tryz.ntmps160 ?_
 intro C hC
 refine zb (za ?_)
 refine zbh ?_
 refine zf (zd ?_)
 refine zY yMix (by kernel_rfl) ?_
 refine zu yA4 ?_
 refine s_mv ?_
 refine zo _ 7 F0 ?_ ?_ <;> intro C1 F1
 iterate 6 refine r_no rfl ?_
 refine zA ?_
 refine zac yS4 ?_
 refine zal (by kernel_rfl) ?_
 refine zhc ?_
 cases F1
 exact zl _ [] Tryz.results160
 refine zu yA24 ?_
 refine zu yA27 ?_
 refine zK yA32 yS32 ?_
 obtain ⟨v2, V2, F2⟩ := zc F1
 refine zv [] (zhb fuel _ _ _ _ V2) ?_
 refine zu yA3 ?_
 refine s_gt ?_
 refine zB ?_
 refine zac yS4 ?_
 refine zal (by kernel_rfl) ?_
 refine zhc ?_
 cases F2
 exact zl _ [] Tryz.results160
def zb3 (fuel : Nat) : Prop := ∀ (x1 : Form) (o1 : Bool) (o2 : (List Form)) (o3 : (List Int)) (o4 : Int) (r : Bool), zaR fuel x1 o1 o2 o3 o4 = some r → AC Tryz.prog 50 [.ag [.t (.sc (.int .i64 x1.kind)), .t (.sc (.str x1.name)), .t (.sc (.int .i64 x1.n)), .t (.sl (x1.scopes.map rI)), .t (.sl (x1.kids.map Form.row))], .fn 160 [.rf 9000 0, .rf 9001 0, .rf 9002 0, .rf 9003 0]] (objs [(9000, .box [.t (.sc (.bool o1))]), (9001, .box [.t (.sl (o2.map Form.row))]), (9002, .box [.t (.sl (o3.map rI))]), (9003, .box [.t (.sc (.int .i64 o4))])]) (.tp []) (objs [(9000, .box [.t (.sc (.bool r))]), (9001, .box [.t (.sl (o2.map Form.row))]), (9002, .box [.t (.sl (o3.map rI))]), (9003, .box [.t (.sc (.int .i64 o4))])])
theorem zgB (fu : Nat) (ih_m_impl_eachForm_rowsOk_1 : ∀ k, k ≤ fu → zb3 k) : zb3 (fu + 1) := by
 intro x1 o1 o2 o3 o4 r F0
 rw [zaR] at F0
 refine AC_i [] Tryz.func50 rfl Tryz.ntmps50 ?_
 intro C hC
 refine zb (za ?_)
 refine zbh ?_
 refine zf (zd (zb (za ?_)))
 refine s_mv ?_
 refine zK yA32 yS32 ?_
 obtain ⟨v1, V1, F1⟩ := zc F0
 refine zZ [(9000, 9000), (9001, 9001), (9002, 9002), (9003, 9003)] [] _ _ (m_impl_rowsOk_1_ok fu _ _ _ _ _ _ V1) ?_
 refine zf (zd (zb (za ?_)))
 refine s_fa zH ?_
 refine zu yA24 ?_
 refine zE yU24 ?_
 refine s_mv ?_
 refine zf (zd (zk ?_))
 refine za1 (β := Int × Bool) [5, 12, 13, 14, 15, 16, 17, 18, 19] [9000] [5] (fun a => [(12, .t (.sc (.int .i64 a.2.1)))]) (fun a => [(9000, .box [.t (.sc (.bool a.2.2))])]) (fun a => a.1 ≤ fu ∧ zas a.1 x1 o2 o3 o4 a.2.1 a.2.2 = some r ∧ 0 ≤ a.2.1) (fu, 0, v1) ⟨Nat.le_refl _, F1, by simp⟩ ?_
 clear F1
 rintro ⟨fu, g2, g3⟩ ⟨hl4, F2, hn_g2⟩
 dsimp only at hl4 F2 hn_g2 ⊢
 obtain _ | fu := fu
 · rw [zas] at F2; cases F2
 rw [zas] at F2
 refine zb (za ?_)
 refine s_lt ?_
 refine zf (zd (zb ?_))
 refine zm F2 ?_ ?_ <;> intro C5 F3
 refine zV 10 (fun B6 => ?_)
 refine zi (zd (zb (zk (zb (za ?_)))))
 obtain ⟨v7, V7, F4⟩ := zc F3
 refine zN Form.row V7 (Form.row_eq _) yE24 ?_
 refine zaq yA32 yS32 ?_
 refine z6 yZ32 ?_
 refine zac yS32 ?_
 refine zf (zd (za ?_))
 refine zK yA32 yS32 ?_
 refine s_mv ?_
 obtain ⟨v8, V8, F5⟩ := zc F4
 refine zZ [(9000, 9000), (9001, 9001), (9002, 9002), (9003, 9003)] [] _ _ (ih_m_impl_eachForm_rowsOk_1 fu (by omega) _ _ _ _ _ _ V8) ?_
 refine zf (z5 (zd (za ?_)))
 refine zO (zaA C5 B6 hn_g2) ?_
 refine s_mv ?_
 refine zf ?_
 exact s_rn (fu, (g2 + 1), v8) ⟨by first | omega | (dsimp only; omega), F5, by first | omega | (dsimp only; omega)⟩
 refine zz (zq (zp (zr (zhc ?_))))
 cases F3
 exact zl _ [] Tryz.results50
theorem zgu (fuel : Nat) : zb3 fuel := by
 induction fuel using Nat.strongRecOn with
 | _ N ih =>
   cases N with
   | zero => exact (by intro x1 o1 o2 o3 o4 r h; rw [zaR] at h; cases h)
   | succ fu => exact zgB fu (fun k hk => (ih k (by omega)))
theorem zgC (fuel : Nat) : zb3 fuel := (zgu fuel)
def zfn (fuel : Nat) : Prop := ∀ (x1 : Form) (x2 : (List Form)) (x3 : (List Int)) (x4 : Int) (r : Bool), zcB fuel x1 x2 x3 x4 = some r → AC Tryz.prog 136 [.ag [.t (.sc (.int .i64 x1.kind)), .t (.sc (.str x1.name)), .t (.sc (.int .i64 x1.n)), .t (.sl (x1.scopes.map rI)), .t (.sl (x1.kids.map Form.row))], .t (.sl (x2.map Form.row)), .t (.sl (x3.map rI)), .t (.sc (.int .i64 x4))] noOb (.t (.sc (.bool r))) noOb
theorem m_impl_rowsOk_st (fu : Nat) (ih_m_impl_rowsOk : ∀ k, k ≤ fu → zfn k) : zfn (fu + 1) := by
 intro x1 x2 x3 x4 r F0
 rw [zcB] at F0
 refine AC_i [.t (.sc (.bool r))] Tryz.func136 rfl Tryz.ntmps136 ?_
 intro C hC
 refine zb (za ?_)
 iterate 4 refine zbh ?_
 refine s_as ?_
 refine zf (zd (zb (zb ?_)))
 refine zY yMix (by kernel_rfl) ?_
 refine zu yA24 ?_
 refine zu yA27 ?_
 refine zK yA32 yS32 ?_
 obtain ⟨v1, V1, F1⟩ := zc F0
 refine zv [] (zhb fu _ _ _ _ V1) ?_
 refine zu yA3 ?_
 refine s_gt ?_
 refine zal (by kernel_rfl) ?_
 refine zd ?_
 refine zm F1 ?_ ?_ <;> intro C2 F2
 refine zb (za ?_)
 refine s_as ?_
 refine zf (zd (zh (zg (zn ?_))))
 cases F2
 exact zl [] [] Tryz.results136
 refine zi (zd (zb (zb (za ?_))))
 refine s_fa zH ?_
 refine zu yA24 ?_
 refine zE yU24 ?_
 refine s_mv ?_
 refine zf (zd (zk ?_))
 refine za1 (β := Int) [8, 9, 10, 11, 12, 22, 23, 24, 25, 26, 27, 28, 29, 30, 31, 32, 33, 34, 35, 36, 37, 38, 39, 40, 41, 42, 43, 44, 45, 46, 47, 48, 49, 50, 51, 52, 53, 54, 55, 56, 57, 58] [] [10, 12] (fun a => [(22, .t (.sc (.int .i64 a.2)))]) (fun a => []) (fun a => a.1 ≤ fu ∧ zaO a.1 x1 x2 x3 x4 a.2 = some r ∧ 0 ≤ a.2) (fu, 0) ⟨Nat.le_refl _, F2, by simp⟩ ?_
 clear F2
 rintro ⟨fu, g3⟩ ⟨hl4, F3, hn_g3⟩
 dsimp only at hl4 F3 hn_g3 ⊢
 obtain _ | fu := fu
 · rw [zaO] at F3; cases F3
 rw [zaO] at F3
 refine zb (za ?_)
 refine s_lt ?_
 refine zf (zd (zb ?_))
 refine zm F3 ?_ ?_ <;> intro C5 F4
 refine zV 20 (fun B6 => ?_)
 refine zi (zd (zb (zk (zb (za ?_)))))
 refine s_mv ?_
 obtain ⟨v7, V7, F5⟩ := zc F4
 refine zN Form.row V7 (Form.row_eq _) yE24 ?_
 refine zaq yA32 yS32 ?_
 refine z6 yZ32 ?_
 refine s_as ?_
 refine zac yS32 ?_
 refine zf (zd (zb (zb (za ?_))))
 refine zK yA32 yS32 ?_
 obtain ⟨v8, V8, F6⟩ := zc F5
 refine zv [] (zcK fu _ _ _ V8) ?_
 refine zf (zd ?_)
 refine zm F6 ?_ ?_ <;> intro C9 F7
 refine zz (zq (zr (zd (za ?_))))
 refine zO (zaA C5 B6 hn_g3) ?_
 refine s_mv ?_
 refine zf ?_
 exact s_rn (fu, (g3 + 1)) ⟨by first | omega | (dsimp only; omega), F7, by first | omega | (dsimp only; omega)⟩
 refine zi (zd (zb (za ?_)))
 refine zu yA3 ?_
 refine s_as ?_
 refine zf (zd (zb (zb (za ?_))))
 refine s_mv ?_
 refine zO (zaA C5 B6 hn_g3) ?_
 refine s_fa zH ?_
 refine zu yA24 ?_
 refine zE yU24 ?_
 refine s_lt ?_
 refine s_mv ?_
 refine zo _ 36 F7 ?_ ?_ <;> intro C10 F8
 refine s_fa zH ?_
 refine zu yA24 ?_
 refine s_mv ?_
 refine zO (zaA C5 B6 hn_g3) ?_
 obtain ⟨v11, V11, F9⟩ := zc F8
 refine zN Form.row V11 (Form.row_eq _) yE24 ?_
 refine zaq yA32 yS32 ?_
 obtain ⟨v12, V12, F10⟩ := zc F9
 refine zv [] (zcK fu _ _ _ V12) ?_
 refine zA ?_
 refine zf (zd ?_)
 refine zm F10 ?_ ?_ <;> intro C13 F11
 refine zb (za ?_)
 refine s_mv ?_
 refine zO rfl ?_
 refine s_as ?_
 refine zf (zd (zb (za ?_)))
 refine z6 yZ4 ?_
 refine zac yS4 ?_
 refine zf (zd (zb (za ?_)))
 refine zK yA32 yS32 ?_
 refine s_fn ?_
 obtain ⟨v14, V14, F12⟩ := zc F11
 refine zZ [(9000, 12), (9001, 5), (9002, 6), (9003, 7)] [] _ _ (zgC fu _ _ _ _ _ _ V14) ?_
 refine zf (zd (zb (za ?_)))
 refine zu yA4 ?_
 refine zby ?_
 refine zf (zd ?_)
 refine zm F12 ?_ ?_ <;> intro C15 F13
 refine zb (za ?_)
 refine s_as ?_
 refine zf (zd (zh (zg (zj (zg (zx (zj (zg (zn ?_)))))))))
 cases F13
 exact zl [] [] Tryz.results136
 refine zi (zd (zb (za ?_)))
 refine zK yA32 yS32 ?_
 refine zu yA24 ?_
 refine zu yA27 ?_
 refine s_mv ?_
 obtain ⟨v16, V16, F14⟩ := zc F13
 refine zv [] (ih_m_impl_rowsOk fu (by omega) _ _ _ _ _ V16) ?_
 refine zby ?_
 refine zf (zd ?_)
 refine zm F14 ?_ ?_ <;> intro C17 F15
 refine zb (za ?_)
 refine s_as ?_
 refine zf (zd (zh (zj (zg (zx (zj (zg (zn ?_))))))))
 cases F15
 exact zl [] [] Tryz.results136
 refine zi (z5 (zd (za ?_)))
 refine zO (zaA C5 B6 hn_g3) ?_
 refine s_mv ?_
 refine zf ?_
 exact s_rn (fu, (g3 + 1)) ⟨by first | omega | (dsimp only; omega), F15, by first | omega | (dsimp only; omega)⟩
 refine zi (zd (zb (za ?_)))
 refine zK yA32 yS32 ?_
 refine zu yA24 ?_
 refine zu yA27 ?_
 refine s_mv ?_
 obtain ⟨v18, V18, F12⟩ := zc F11
 refine zv [] (ih_m_impl_rowsOk fu (by omega) _ _ _ _ _ V18) ?_
 refine zby ?_
 refine zf (zd ?_)
 refine zm F12 ?_ ?_ <;> intro C19 F13
 refine zb (za ?_)
 refine s_as ?_
 refine zf (zd (zh (zj (zg (zx (zj (zg (zn ?_))))))))
 cases F13
 exact zl [] [] Tryz.results136
 refine zi (z5 (zd (za ?_)))
 refine zO (zaA C5 B6 hn_g3) ?_
 refine s_mv ?_
 refine zf ?_
 exact s_rn (fu, (g3 + 1)) ⟨by first | omega | (dsimp only; omega), F13, by first | omega | (dsimp only; omega)⟩
 iterate 7 refine r_no rfl ?_
 refine zB ?_
 refine zf (zd (zaI rfl (zi (zd (zb (za ?_))))))
 refine zK yA32 yS32 ?_
 refine zu yA24 ?_
 refine zu yA27 ?_
 refine s_mv ?_
 obtain ⟨v20, V20, F9⟩ := zc F8
 refine zv [] (ih_m_impl_rowsOk fu (by omega) _ _ _ _ _ V20) ?_
 refine zby ?_
 refine zf (zd ?_)
 refine zm F9 ?_ ?_ <;> intro C21 F10
 refine zb (za ?_)
 refine s_as ?_
 refine zf (zd (zh (zj (zg (zx (zj (zg (zn ?_))))))))
 cases F10
 exact zl [] [] Tryz.results136
 refine zi (z5 (zd (za ?_)))
 refine zO (zaA C5 B6 hn_g3) ?_
 refine s_mv ?_
 refine zf ?_
 exact s_rn (fu, (g3 + 1)) ⟨by first | omega | (dsimp only; omega), F10, by first | omega | (dsimp only; omega)⟩
 refine zz (zq (zp (zr (zd (zb (za ?_))))))
 refine s_as ?_
 refine zf (zd (zh (zn ?_)))
 cases F4
 exact zl [] [] Tryz.results136
theorem m_impl_rowsOk_all (fuel : Nat) : zfn fuel := by
 induction fuel using Nat.strongRecOn with
 | _ N ih =>
   cases N with
   | zero => exact (by intro x1 x2 x3 x4 r h; rw [zcB] at h; cases h)
   | succ fu => exact m_impl_rowsOk_st fu (fun k hk => (ih k (by omega)))
theorem m_impl_rowsOk_ok (fuel : Nat) : zfn fuel := (m_impl_rowsOk_all fuel)
def m_impl_templateOk_AC (fuel : Nat) : Prop := ∀ (x1 : Form) (x2 : (List Form)) (x3 : (List Int)) (r : Bool), zdO fuel x1 x2 x3 = some r → AC Tryz.prog 88 [.ag [.t (.sc (.int .i64 x1.kind)), .t (.sc (.str x1.name)), .t (.sc (.int .i64 x1.n)), .t (.sl (x1.scopes.map rI)), .t (.sl (x1.kids.map Form.row))], .t (.sl (x2.map Form.row)), .t (.sl (x3.map rI))] noOb (.t (.sc (.bool r))) noOb
theorem m_impl_templateOk_ok (fuel : Nat) : m_impl_templateOk_AC fuel := by
 intro x1 x2 x3 r F0
 unfold zdO at F0
 refine AC_i [.t (.sc (.bool r))] Tryz.func88 rfl Tryz.ntmps88 ?_
 intro C hC
 refine zb (za ?_)
 refine zbh ?_
 refine s_as ?_
 refine zf (zd (zb (za ?_)))
 refine zK yA32 yS32 ?_
 obtain ⟨v1, V1, F1⟩ := zc F0
 refine zv [] (zd0 fuel _ _ V1) ?_
 refine s_mv ?_
 refine zo _ 9 F1 ?_ ?_ <;> intro C2 F2
 refine zK yA32 yS32 ?_
 obtain ⟨v3, V3, F3⟩ := zc F2
 refine zv [] (zcK fuel _ _ _ V3) ?_
 refine zby ?_
 refine zA ?_
 refine s_mv ?_
 refine zo _ 14 F3 ?_ ?_ <;> intro C4 F4
 refine zK yA32 yS32 ?_
 obtain ⟨v5, V5, F5⟩ := zc F4
 refine zv [] (m_impl_dotsOk_ok fuel _ _ _ V5) ?_
 refine zA ?_
 refine s_mv ?_
 refine zo _ 18 F5 ?_ ?_ <;> intro C6 F6
 refine zK yA32 yS32 ?_
 refine s_mv ?_
 refine s_mv ?_
 obtain ⟨v7, V7, F7⟩ := zc F6
 refine zv [] (m_impl_rowsOk_ok fuel _ _ _ _ _ V7) ?_
 refine zA ?_
 refine s_as ?_
 refine zf (zd (zh (zn ?_)))
 cases F7
 exact zl [] [] Tryz.results88
 iterate 4 refine r_no rfl ?_
 refine zB ?_
 refine s_as ?_
 refine zf (zd (zh (zn ?_)))
 cases F6
 exact zl [] [] Tryz.results88
 refine r_no rfl (r_no rfl ?_)
 refine zB ?_
 refine s_mv ?_
 iterate 4 refine r_no rfl ?_
 refine zB ?_
 refine s_as ?_
 refine zf (zd (zh (zn ?_)))
 cases F4
 exact zl [] [] Tryz.results88
 iterate 3 refine r_no rfl ?_
 refine zB ?_
 refine s_mv ?_
 refine r_no rfl (r_no rfl ?_)
 refine zB ?_
 refine s_mv ?_
 iterate 4 refine r_no rfl ?_
 refine zB ?_
 refine s_as ?_
 refine zf (zd (zh (zn ?_)))
 cases F2
 exact zl [] [] Tryz.results88
def zhr (fuel : Nat) : Prop := ∀ (x1 : Form) (x2 : (List Hit)) (r : Bool), zcZ fuel x1 x2 = some r → AC Tryz.prog 41 [.ag [.t (.sc (.int .i64 x1.kind)), .t (.sc (.str x1.name)), .t (.sc (.int .i64 x1.n)), .t (.sl (x1.scopes.map rI)), .t (.sl (x1.kids.map Form.row))], .t (.sl (x2.map Hit.row))] noOb (.t (.sc (.bool r))) noOb
theorem zhq (fuel : Nat) : zhr fuel := by
 intro x1 x2 r F0
 unfold zcZ at F0
 refine AC_i [.t (.sc (.bool r))] Tryz.func41 rfl Tryz.ntmps41 ?_
 intro C hC
 refine zb (za ?_)
 refine zbh ?_
 refine s_as ?_
 refine zf (zd (zb (za ?_)))
 refine s_mv ?_
 obtain ⟨v1, V1, F1⟩ := zc F0
 refine zv [] (m_impl_hitVars_ok fuel _ _ V1) ?_
 refine s_mv ?_
 refine zcp ?_
 refine zcp ?_
 refine s_as ?_
 refine s_as ?_
 refine zf (zd (zb (za ?_)))
 refine s_mv ?_
 obtain ⟨v2, V2, F2⟩ := zc F1
 refine zv [] (zgD fuel _ _ V2) ?_
 refine s_mv ?_
 refine zo _ 14 F2 ?_ ?_ <;> intro C3 F3
 refine zK yA32 yS32 ?_
 refine s_mv ?_
 refine s_mv ?_
 obtain ⟨v4, V4, F4⟩ := zc F3
 refine zv [] (m_impl_templateOk_ok fuel _ _ _ _ V4) ?_
 refine zA ?_
 refine s_as ?_
 refine zf (zd (zh (zn ?_)))
 cases F4
 exact zl [] [] Tryz.results41
 iterate 4 refine r_no rfl ?_
 refine zB ?_
 refine s_as ?_
 refine zf (zd (zh (zn ?_)))
 cases F3
 exact zl [] [] Tryz.results41
def m_slices_Clone_int_AC (fuel : Nat) : Prop := ∀ (x1 : (List Int)) (r : (List Int)), zdz fuel x1 = some r → AC Tryz.prog 129 [.t (.sl (x1.map rI))] noOb (.t (.sl (r.map rI))) noOb
theorem m_slices_Clone_int_ok (fuel : Nat) : m_slices_Clone_int_AC fuel := by
 intro x1 r F0
 unfold zdz at F0
 refine AC_i [.t (.sl (r.map rI))] Tryz.func129 rfl Tryz.ntmps129 ?_
 intro C hC
 refine awp_nil 0 (fun hz => ?_) ?_
 replace hz := List.map_eq_nil_iff.mp hz; subst hz; obtain ⟨_, F1⟩ := zah F0
 refine zb (za ?_)
 refine s_as ?_
 refine zf (zd (zb (zb (za ?_))))
 refine s_mv ?_
 refine s_nil yU27 ?_
 refine zf (zd (zM rfl ?_))
 refine zge 0 ?_
 refine zge 3 ?_
 refine zb (za ?_)
 refine s_as ?_
 refine zf (zd (zh (zg (zn ?_))))
 cases F1
 exact zl [] [] Tryz.results129
 refine zb (za ?_)
 refine s_as ?_
 refine zf (zd (zb (zb (za ?_))))
 refine s_mv ?_
 refine s_nil yU27 ?_
 refine zf (zd (zaI rfl ?_))
 refine zge 0 ?_
 refine zge 3 ?_
 refine zi (zd (zb (za ?_)))
 refine s_bs rI ([] : List Int) yP27 yR3 ?_
 refine s_mv ?_
 obtain ⟨hk1, F1⟩ := zah F0
 refine zdT rI (fun _ => rfl) hk1 yP27 ?_
 refine s_as ?_
 refine zf (zd (zh (zn ?_)))
 cases F1
 exact zl [] [7] Tryz.results129
def zez (fuel : Nat) : Prop := ∀ (x1 : Form) (r : Form), zbr fuel x1 = some r → AC Tryz.prog 79 [.ag [.t (.sc (.int .i64 x1.kind)), .t (.sc (.str x1.name)), .t (.sc (.int .i64 x1.n)), .t (.sl (x1.scopes.map rI)), .t (.sl (x1.kids.map Form.row))]] noOb (.ag [.t (.sc (.int .i64 r.kind)), .t (.sc (.str r.name)), .t (.sc (.int .i64 r.n)), .t (.sl (r.scopes.map rI)), .t (.sl (r.kids.map Form.row))]) noOb
theorem m_impl_copyForm_st (fu : Nat) (ih_m_impl_copyForm : ∀ k, k ≤ fu → zez k) : zez (fu + 1) := by
 intro x1 r F0
 rw [zbr] at F0
 refine AC_i [.ag [.t (.sc (.int .i64 r.kind)), .t (.sc (.str r.name)), .t (.sc (.int .i64 r.n)), .t (.sl (r.scopes.map rI)), .t (.sl (r.kids.map Form.row))]] Tryz.func79 rfl Tryz.ntmps79 ?_
 intro C hC
 refine zb (za ?_)
 refine zbh ?_
 refine z6 yZ32 ?_
 refine zf (zd (zb ?_))
 refine zY yMix (by kernel_rfl) ?_
 refine s_fa zc2 ?_
 refine zu yA3 ?_
 refine s_fa zdm ?_
 refine zu yA9 ?_
 refine s_fa zf9 ?_
 refine zu yA3 ?_
 refine s_fa zeY ?_
 refine zu yA27 ?_
 obtain ⟨v1, V1, F1⟩ := zc F0
 refine zv [] (m_slices_Clone_int_ok fu _ _ V1) ?_
 refine zeC yZ32 yL32 ?_
 refine z6 yZ32 ?_
 refine zac yS32 ?_
 refine zal (by kernel_rfl) ?_
 refine zd (zb (zb (za ?_)))
 refine s_fa zH ?_
 refine zu yA24 ?_
 refine zE yU24 ?_
 refine s_mv ?_
 refine zf (zd (zk ?_))
 refine zgW 3 5020 32 [.t (.sc (.int .i64 x1.kind)), .t (.sc (.str x1.name)), .t (.sc (.int .i64 x1.n)), .t (.sl (v1.map rI)), .ar 5020] yI32.choose_spec ?_
 refine zap [5, 19, 20, 21, 22, 23, 24, 25, 26, 27, 28, 29, 30] [3, 5020] [5, 27, 28] [5020] (fun a : Nat × Int × (List Form) => a.1) (fun a : Nat × Int × (List Form) => [(19, .t (.sc (.int .i64 a.2.1)))]) (fun a : Nat × Int × (List Form) => [(3, .box [.t (.sc (.int .i64 x1.kind)), .t (.sc (.str x1.name)), .t (.sc (.int .i64 x1.n)), .t (.sl (v1.map rI)), .ar 5020]), (5020, .arr (a.2.2.map Form.row) 32 true)]) (fun a : Nat × Int × (List Form) => a.1 ≤ fu ∧ zb4 a.1 x1 v1 a.2.1 a.2.2 = some r ∧ 0 ≤ a.2.1) (fu, 0, ([] : List Form)) ⟨Nat.le_refl _, F1, by simp⟩ (by rfl) (by rfl) (fun _ => rfl) (zG (by conv => lhs; whnf) (by rfl) za2) (zT (by conv => lhs; whnf) (by rfl) (zT (by conv => lhs; whnf) (by rfl) zaS)) (zbV hC rfl) (by repeat (first | exact zad rfl | refine zan rfl ?_ | refine zW rfl ?_)) (by repeat (first | exact zaD | exact zai rfl | refine zao rfl ?_ | refine zX rfl ?_)) ?_
 clear F1
 rintro ⟨fu, g2, g3⟩ ⟨hl4, F2, hn_g2⟩
 dsimp only at hl4 F2 hn_g2 ⊢
 obtain _ | fu := fu
 · rw [zb4] at F2; cases F2
 rw [zb4] at F2
 refine zb (za ?_)
 refine s_lt ?_
 refine zf (zd (zb ?_))
 refine zm F2 ?_ ?_ <;> intro C5 F3
 refine zV 17 (fun B6 => ?_)
 refine zi (zd (zb (zk (zb (za ?_)))))
 obtain ⟨v7, V7, F4⟩ := zc F3
 refine zN Form.row V7 (Form.row_eq _) yE24 ?_
 refine zaq yA32 yS32 ?_
 refine z6 yZ32 ?_
 refine zac yS32 ?_
 refine zf (zd ?_)
 refine zY yMix (by kernel_rfl) ?_
 refine s_fa zH ?_
 refine zu yA24 ?_
 refine zK yA32 yS32 ?_
 obtain ⟨v8, V8, F5⟩ := zc F4
 refine zv [] (ih_m_impl_copyForm fu (by omega) _ _ V8) ?_
 refine s_bs Form.row [v8] yP24 yR32 ?_
 obtain ⟨hk9, F6⟩ := zah F5
 refine zdT Form.row (fun y => Form.row_len y) hk9 yP24 ?_
 refine s_fa zH ?_
 refine zgJ yS24 ?_
 refine zal (by kernel_rfl) ?_
 refine z5 (zd (za ?_))
 refine zO (zaA C5 B6 hn_g2) ?_
 refine s_mv ?_
 refine zf ?_
 exact s_rn (fu, (g2 + 1), (g3 ++ [v8])) ⟨by first | omega | (dsimp only; omega), F6, by first | omega | (dsimp only; omega)⟩ [(5020, 28)]
 refine zz (zq (zp (zr (zd (zb (za ?_))))))
 refine zK yA32 yS32 ?_
 refine zac yS32 ?_
 refine zf (zd (zh (zn ?_)))
 cases F3
 exact zI [] [5020] (by rw [Tryz.results79]; exact (z8 (by conv => lhs; whnf) (by conv => lhs; whnf) yA32 yS32 rfl zR))
theorem m_impl_copyForm_all (fuel : Nat) : zez fuel := by
 induction fuel using Nat.strongRecOn with
 | _ N ih =>
   cases N with
   | zero => exact (by intro x1 r h; rw [zbr] at h; cases h)
   | succ fu => exact m_impl_copyForm_st fu (fun k hk => (ih k (by omega)))
theorem zfS (fuel : Nat) : zez fuel := (m_impl_copyForm_all fuel)
def zeA (fuel : Nat) : Prop := ∀ (x1 : Form) (r : Int), zcL fuel x1 = some r → AC Tryz.prog 22 [.ag [.t (.sc (.int .i64 x1.kind)), .t (.sc (.str x1.name)), .t (.sc (.int .i64 x1.n)), .t (.sl (x1.scopes.map rI)), .t (.sl (x1.kids.map Form.row))]] noOb (.t (.sc (.int .i64 r))) noOb
theorem m_impl_FormSize_st (fu : Nat) (ih_m_impl_FormSize : ∀ k, k ≤ fu → zeA k) : zeA (fu + 1) := by
 intro x1 r F0
 rw [zcL] at F0
 refine AC_i [.t (.sc (.int .i64 r))] Tryz.func22 rfl Tryz.ntmps22 ?_
 intro C hC
 refine zb (za ?_)
 refine zbh ?_
 refine s_as ?_
 refine zf (zd (zb (za ?_)))
 refine s_as ?_
 refine zf (zd (zb (zb (za ?_))))
 refine s_fa zH ?_
 refine zu yA24 ?_
 refine zE yU24 ?_
 refine s_mv ?_
 refine zf (zd (zk ?_))
 refine za1 (β := Int × Int) [3, 5, 9, 10, 11, 12, 13, 14, 15, 16, 17] [] [5] (fun a => [(3, .t (.sc (.int .i64 a.2.1))), (9, .t (.sc (.int .i64 a.2.2)))]) (fun a => []) (fun a => a.1 ≤ fu ∧ zbD a.1 x1 a.2.1 a.2.2 = some r ∧ 0 ≤ a.2.2) (fu, 1, 0) ⟨Nat.le_refl _, F0, by simp⟩ ?_
 clear F0
 rintro ⟨fu, g1, g2⟩ ⟨hl3, F1, hn_g2⟩
 dsimp only at hl3 F1 hn_g2 ⊢
 obtain _ | fu := fu
 · rw [zbD] at F1; cases F1
 rw [zbD] at F1
 refine zb (za ?_)
 refine s_lt ?_
 refine zf (zd (zb ?_))
 refine zm F1 ?_ ?_ <;> intro C4 F2
 refine zV 7 (fun B5 => ?_)
 refine zi (zd (zb (zk (zb (za ?_)))))
 obtain ⟨v6, V6, F3⟩ := zc F2
 refine zN Form.row V6 (Form.row_eq _) yE24 ?_
 refine zaq yA32 yS32 ?_
 refine z6 yZ32 ?_
 refine zac yS32 ?_
 refine zf (zd (za ?_))
 refine s_mv ?_
 refine zK yA32 yS32 ?_
 obtain ⟨v7, V7, F4⟩ := zc F3
 refine zv [] (ih_m_impl_FormSize fu (by omega) _ _ V7) ?_
 refine zO rfl ?_
 refine s_as ?_
 refine zf (z5 (zd (za ?_)))
 refine zO (zaA C4 B5 hn_g2) ?_
 refine s_mv ?_
 refine zf ?_
 exact s_rn (fu, (w64 (g1 + v7)), (g2 + 1)) ⟨by first | omega | (dsimp only; omega), F4, by first | omega | (dsimp only; omega)⟩
 refine zz (zq (zp (zr (zd (zb (za ?_))))))
 refine s_mv ?_
 refine s_as ?_
 refine zf (zd (zh (zn ?_)))
 cases F2
 exact zl [] [] Tryz.results22
theorem m_impl_FormSize_all (fuel : Nat) : zeA fuel := by
 induction fuel using Nat.strongRecOn with
 | _ N ih =>
   cases N with
   | zero => exact (by intro x1 r h; rw [zcL] at h; cases h)
   | succ fu => exact m_impl_FormSize_st fu (fun k hk => (ih k (by omega)))
theorem m_impl_FormSize_ok (fuel : Nat) : zeA fuel := (m_impl_FormSize_all fuel)
def m_impl_fill_2_AC (fuel : Nat) : Prop := ∀ (x1 : Form) (o1 : Bool) (o2 : Hit) (r : Bool), zgt fuel x1 o1 o2 = some r → AC Tryz.prog 90 [.ag [.t (.sc (.int .i64 x1.kind)), .t (.sc (.str x1.name)), .t (.sc (.int .i64 x1.n)), .t (.sl (x1.scopes.map rI)), .t (.sl (x1.kids.map Form.row))], .rf 9000 0, .rf 9001 0] (objs [(9000, .box [.t (.sc (.bool o1))]), (9001, .box [.t (.sc (.int .i64 o2.name.kind)), .t (.sc (.str o2.name.name)), .t (.sc (.int .i64 o2.name.n)), .t (.sl (o2.name.scopes.map rI)), .t (.sl (o2.name.kids.map Form.row)), .t (.sc (.int .i64 o2.depth)), .t (.sc (.int .i64 o2.one.kind)), .t (.sc (.str o2.one.name)), .t (.sc (.int .i64 o2.one.n)), .t (.sl (o2.one.scopes.map rI)), .t (.sl (o2.one.kids.map Form.row)), .t (.sl (o2.many.map Hit.row))])]) (.tp []) (objs [(9000, .box [.t (.sc (.bool r))]), (9001, .box [.t (.sc (.int .i64 o2.name.kind)), .t (.sc (.str o2.name.name)), .t (.sc (.int .i64 o2.name.n)), .t (.sl (o2.name.scopes.map rI)), .t (.sl (o2.name.kids.map Form.row)), .t (.sc (.int .i64 o2.depth)), .t (.sc (.int .i64 o2.one.kind)), .t (.sc (.str o2.one.name)), .t (.sc (.int .i64 o2.one.n)), .t (.sl (o2.one.scopes.map rI)), .t (.sl (o2.one.kids.map Form.row)), .t (.sl (o2.many.map Hit.row))])])
theorem m_impl_fill_2_ok (fuel : Nat) : m_impl_fill_2_AC fuel := by
 intro x1 o1 o2 r F0
 unfold zgt at F0
 refine AC_i [] Tryz.func90 rfl Tryz.ntmps90 ?_
 intro C hC
 refine zb (za ?_)
 refine zbh ?_
 refine zf (zd (za ?_))
 refine zu yA4 ?_
 refine s_mv ?_
 refine zo _ 5 F0 ?_ ?_ <;> intro C1 F1
 iterate 4 refine r_no rfl ?_
 refine zA ?_
 refine zac yS4 ?_
 refine zf (zhc ?_)
 cases F1
 exact zl _ [] Tryz.results90
 refine zK yA32 yS32 ?_
 refine s_fa zeX ?_
 refine zaq yA32 yS32 ?_
 obtain ⟨v2, V2, F2⟩ := zc F1
 refine zv [] (zbE fuel _ _ _ V2) ?_
 refine zB ?_
 refine zac yS4 ?_
 refine zf (zhc ?_)
 cases F2
 exact zl _ [] Tryz.results90
end Go.Abs
