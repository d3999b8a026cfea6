/- A part of the proof: what the functions that the law calls answer, as pure values. -/
import Derived.Test.YtjjjnhpghhamkaaGreatKac1bd4e93480
import Derived.Test.YtjjjnhpghhamkaaGreatK03b3262cfb9c
import Derived.Test.YtjjjnhpghhamkaaGreatK7ac0b3551e5d
import Derived.Test.YtjjjnhpghhamkaaGreatK17049cea853b
import Derived.Test.YtjjjnhpghhamkaaGreatKba44e2044c52
import Derived.Test.YtjjjnhpghhamkaaGreatK886f62453d29
import Derived.Test.YtjjjnhpghhamkaaGreatKffe405a2eb68
import Derived.Test.YtjjjnhpghhamkaaGreatK6965184f9e71
set_option linter.unusedSimpArgs false
set_option linter.unusedVariables false
set_option maxRecDepth 100000
set_option maxHeartbeats 4000000
namespace Go.Abs
open Go.Proofs
def m_spec_FirstRule_AC (fuel : Nat) : Prop := ∀ (x1 : (List Bind)) (x2 : (List Rule)) (x3 : (List Form)) (x4 : Form) (r : (Int × Bool)), zeo fuel x1 x2 x3 x4 = some r → AC Tryz.prog 33 [.t (.sl (x1.map Bind.row)), .t (.sl (x2.map Rule.row)), .t (.sl (x3.map Form.row)), .ag [.t (.sc (.int .i64 x4.kind)), .t (.sc (.str x4.name)), .t (.sc (.int .i64 x4.n)), .t (.sl (x4.scopes.map rI)), .t (.sl (x4.kids.map Form.row))]] noOb (.tp [.t (.sc (.int .i64 r.1)), .t (.sc (.bool r.2))]) noOb
theorem m_spec_FirstRule_ok (fuel : Nat) : m_spec_FirstRule_AC fuel := by
 intro x1 x2 x3 x4 r F0
 unfold zeo at F0
 refine AC_i [.t (.sc (.int .i64 r.1)), .t (.sc (.bool r.2))] Tryz.func33 rfl Tryz.ntmps33 ?_
 intro C hC
 refine zb (za ?_)
 refine zbf ?_
 refine s_as ?_
 refine s_as ?_
 refine zf (zd (zb ?_))
 refine zbk (α := Nat × Bool) [13, 14, 15, 16, 17, 18, 19, 20, 21, 22, 23, 24, 25, 26] [] [] (fun a => [(26, .t (.sc (.bool a.2)))]) (fun a => []) (fun a => a.1 ≤ fuel ∧ zaZ a.1 x1 x2 x3 x4 a.2 = some r) ?_ ?_
 refine za ?_
 refine s_mv ?_
 obtain ⟨v1, V1, F1⟩ := zc F0
 refine zv [] (zgt fuel _ _ V1) ?_
 refine zbB ?_
 refine s_mv ?_
 refine zo _ 16 F1 ?_ ?_ <;> intro C2 F2
 iterate 4 refine r_no rfl ?_
 refine zA ?_
 refine s_mv ?_
 iterate 3 refine r_no rfl ?_
 refine zA ?_
 refine zf ?_
 exact s_jn (fuel, true) ⟨by first | omega | (dsimp only; omega), F2⟩
 refine s_mv ?_
 refine s_mv ?_
 obtain ⟨v3, V3, F3⟩ := zc F2
 refine zv [] (zg8 fuel _ _ _ V3) ?_
 refine zbB ?_
 refine zB ?_
 refine s_mv ?_
 refine zo _ 22 F3 ?_ ?_ <;> intro C4 F4
 iterate 3 refine r_no rfl ?_
 refine zA ?_
 refine zf ?_
 exact s_jn (fuel, true) ⟨by first | omega | (dsimp only; omega), F4⟩
 refine zI yA27 yS27 ?_
 obtain ⟨v5, V5, F5⟩ := zc F4
 refine zv [] (zaK fuel _ _ V5) ?_
 refine zbB ?_
 refine zB ?_
 refine zf ?_
 exact s_jn (fuel, (!v5)) ⟨by first | omega | (dsimp only; omega), F5⟩
 clear F0
 rintro ⟨fu, g6⟩ ⟨hl7, F1⟩
 dsimp only at hl7 F1 ⊢
 obtain _ | fu := fu
 · rw [zaZ] at F1; cases F1
 rw [zaZ] at F1
 refine zm F1 ?_ ?_ <;> intro C8 F2
 refine zb (za ?_)
 refine s_as ?_
 refine s_as ?_
 refine zf (zd (zh (zg (zn ?_))))
 cases F2
 exact zl [] [] Tryz.results33
 refine zi (zd (zb (zb (za ?_))))
 refine s_as ?_
 refine zf (zd (zk ?_))
 refine za1 (β := Int) [8, 9, 10, 11, 12, 27, 28, 29, 30, 31, 32, 33, 34, 35, 36, 37, 38, 39, 40, 41, 42, 43, 44, 45, 46] [] [] (fun a => [(10, .t (.sc (.int .i64 a.2)))]) (fun a => []) (fun a => a.1 ≤ fu ∧ zbt a.1 x1 x2 x3 x4 a.2 = some r ∧ 0 ≤ a.2) (fu, 0) ⟨Nat.le_refl _, F2, by simp⟩ ?_
 clear F2
 rintro ⟨fu, g9⟩ ⟨hl10, F3, hn_g9⟩
 dsimp only at hl10 F3 hn_g9 ⊢
 obtain _ | fu := fu
 · rw [zbt] at F3; cases F3
 rw [zbt] at F3
 refine zb (zb (za ?_))
 refine s_mv ?_
 refine s_mv ?_
 refine zE yU62 ?_
 refine s_lt ?_
 refine zf (zd ?_)
 refine zm F3 ?_ ?_ <;> intro C11 F4
 refine zT 1 (fun B12 => ?_)
 refine zi (zd (zb (zk (zb ?_))))
 refine zW yMix (by kernel_rfl) ?_
 iterate 3 refine s_mv ?_
 obtain ⟨v13, V13, F5⟩ := zc F4
 refine zM Rule.row V13 (Rule.row_eq _) yE62 ?_
 refine s_fa yF73_0 ?_
 refine zan yA27 yS27 ?_
 refine s_mv ?_
 refine zI yA27 yS27 ?_
 obtain ⟨v14, V14, F6⟩ := zc F5
 refine zv [] (zha fu _ _ _ _ _ V14) ?_
 refine s_mv ?_
 refine zct ?_
 refine zct ?_
 refine s_as ?_
 refine s_as ?_
 refine zak (by kernel_rfl) ?_
 refine zd (zb (za ?_))
 refine s_mv ?_
 refine zf (zd ?_)
 refine zm F6 ?_ ?_ <;> intro C15 F7
 refine zb (za ?_)
 refine s_mv ?_
 refine s_as ?_
 refine s_as ?_
 refine zf (zd (zh (zj (zg (zx (zj (zg (zn ?_))))))))
 cases F7
 exact zl [] [] Tryz.results33
 refine zi (zX (zd (za ?_)))
 refine s_mv ?_
 refine zN (zaz C11 B12 hn_g9) ?_
 refine s_as ?_
 refine zf ?_
 exact s_rn (fu, (g9 + 1)) ⟨by first | omega | (dsimp only; omega), F7, by first | omega | (dsimp only; omega)⟩
 refine zz (zq (zp (zr (zd (zb (za ?_))))))
 refine s_as ?_
 refine s_as ?_
 refine zf (zd (zh (zn ?_)))
 cases F4
 exact zl [] [] Tryz.results33
def m_impl_depthIn_1_AC (fuel : Nat) : Prop := ∀ (x1 : Form) (o1 : Form) (r : Bool), zep fuel x1 o1 = some r → AC Tryz.prog 206 [.ag [.t (.sc (.int .i64 x1.kind)), .t (.sc (.str x1.name)), .t (.sc (.int .i64 x1.n)), .t (.sl (x1.scopes.map rI)), .t (.sl (x1.kids.map Form.row))], .rf 9000 0] (objs [(9000, .box [.t (.sc (.int .i64 o1.kind)), .t (.sc (.str o1.name)), .t (.sc (.int .i64 o1.n)), .t (.sl (o1.scopes.map rI)), .t (.sl (o1.kids.map Form.row))])]) (.t (.sc (.bool r))) (objs [(9000, .box [.t (.sc (.int .i64 o1.kind)), .t (.sc (.str o1.name)), .t (.sc (.int .i64 o1.n)), .t (.sl (o1.scopes.map rI)), .t (.sl (o1.kids.map Form.row))])])
theorem m_impl_depthIn_1_ok (fuel : Nat) : m_impl_depthIn_1_AC fuel := by
 intro x1 o1 r F0
 unfold zep at F0
 refine AC_i [.t (.sc (.bool r))] Tryz.func206 rfl Tryz.ntmps206 ?_
 intro C hC
 refine zb (za ?_)
 refine zbf ?_
 refine s_as ?_
 refine zf (zd (zb (za ?_)))
 refine zI yA27 yS27 ?_
 refine zI yA27 yS27 ?_
 obtain ⟨v1, V1, F1⟩ := zc F0
 refine zv [] (zbj fuel _ _ _ V1) ?_
 refine s_as ?_
 refine zf (zd (zh (zn ?_)))
 cases F1
 exact zl _ [] Tryz.results206
def zfa (fuel : Nat) : Prop := ∀ (x1 : (List Form)) (o1 : Form) (r : Int), zbh fuel x1 o1 = some r → AC Tryz.prog 178 [.t (.sl (x1.map Form.row)), .fn 206 [.rf 9000 0]] (objs [(9000, .box [.t (.sc (.int .i64 o1.kind)), .t (.sc (.str o1.name)), .t (.sc (.int .i64 o1.n)), .t (.sl (o1.scopes.map rI)), .t (.sl (o1.kids.map Form.row))])]) (.t (.sc (.int .i64 r))) (objs [(9000, .box [.t (.sc (.int .i64 o1.kind)), .t (.sc (.str o1.name)), .t (.sc (.int .i64 o1.n)), .t (.sl (o1.scopes.map rI)), .t (.sl (o1.kids.map Form.row))])])
theorem ze9 (fuel : Nat) : zfa fuel := by
 intro x1 o1 r F0
 unfold zbh at F0
 refine AC_i [.t (.sc (.int .i64 r))] Tryz.func178 rfl Tryz.ntmps178 ?_
 intro C hC
 refine zb (za ?_)
 refine s_as ?_
 refine zf (zd (zb (zb (za ?_))))
 refine s_mv ?_
 refine zE yU25 ?_
 refine s_mv ?_
 refine zf (zd (zk ?_))
 refine za1 (β := Int) [4, 5, 8, 9, 10, 11, 12, 13, 14, 15, 16, 17, 18] [] [] (fun a => [(8, .t (.sc (.int .i64 a.2)))]) (fun a => []) (fun a => a.1 ≤ fuel ∧ z7 a.1 x1 o1 a.2 = some r ∧ 0 ≤ a.2) (fuel, 0) ⟨Nat.le_refl _, F0, by simp⟩ ?_
 clear F0
 rintro ⟨fu, g1⟩ ⟨hl2, F1, hn_g1⟩
 dsimp only at hl2 F1 hn_g1 ⊢
 obtain _ | fu := fu
 · rw [z7] at F1; cases F1
 rw [z7] at F1
 refine zb (za ?_)
 refine s_lt ?_
 refine zf (zd (zb ?_))
 refine zm F1 ?_ ?_ <;> intro C3 F2
 refine zT 0 (fun B4 => ?_)
 refine zi (zd (zb (zk (zb (za ?_)))))
 refine s_mv ?_
 refine s_as ?_
 refine zf (zd (zb (za ?_)))
 iterate 3 refine s_mv ?_
 obtain ⟨v5, V5, F3⟩ := zc F2
 refine zM Form.row V5 (Form.row_eq _) yE25 ?_
 refine zan yA27 yS27 ?_
 obtain ⟨v6, V6, F4⟩ := zc F3
 refine z5 [(9000, 9000)] [] _ _ (m_impl_depthIn_1_ok fu _ _ _ V6) ?_
 refine zf (zd ?_)
 refine zm F4 ?_ ?_ <;> intro C7 F5
 refine zb (za ?_)
 refine s_mv ?_
 refine s_as ?_
 refine zf (zd (zh (zj (zg (zx (zj (zg (zn ?_))))))))
 cases F5
 exact zl _ [] Tryz.results178
 refine zi (zX (zd (za ?_)))
 refine zN (zaz C3 B4 hn_g1) ?_
 refine s_mv ?_
 refine zf ?_
 exact s_rn (fu, (g1 + 1)) ⟨by first | omega | (dsimp only; omega), F5, by first | omega | (dsimp only; omega)⟩
 refine zz (zq (zp (zr (zd (zb (za ?_))))))
 refine s_as ?_
 refine zf (zd (zh (zn ?_)))
 cases F2
 exact zl _ [] Tryz.results178
def m_impl_depthIn_AC (fuel : Nat) : Prop := ∀ (x1 : (List Form)) (x2 : (List Int)) (x3 : Form) (r : Int), zez fuel x1 x2 x3 = some r → AC Tryz.prog 191 [.t (.sl (x1.map Form.row)), .t (.sl (x2.map rI)), .ag [.t (.sc (.int .i64 x3.kind)), .t (.sc (.str x3.name)), .t (.sc (.int .i64 x3.n)), .t (.sl (x3.scopes.map rI)), .t (.sl (x3.kids.map Form.row))]] noOb (.t (.sc (.int .i64 r))) noOb
theorem zhg (fuel : Nat) : m_impl_depthIn_AC fuel := by
 intro x1 x2 x3 r F0
 unfold zez at F0
 refine AC_i [.t (.sc (.int .i64 r))] Tryz.func191 rfl Tryz.ntmps191 ?_
 intro C hC
 refine zb (za ?_)
 refine zbf ?_
 refine s_as ?_
 refine zf (zd (zb (zb (za ?_))))
 refine s_fa zc2 ?_
 refine zu yA3 ?_
 refine s_ne ?_
 refine zf (zd ?_)
 refine zm F0 ?_ ?_ <;> intro C1 F1
 refine zb (za ?_)
 refine s_as ?_
 refine zf (zd (zh (zg (zn ?_))))
 cases F1
 exact zl [] [] Tryz.results191
 refine zi (zd (zb (za ?_)))
 refine s_mv ?_
 refine s_fn ?_
 obtain ⟨v2, V2, F2⟩ := zc F1
 refine z5 [(9000, 5)] [] _ _ (ze9 fuel _ _ _ V2) ?_
 refine s_as ?_
 refine zf (zd (zb (zb (za ?_))))
 refine s_mv ?_
 refine s_lt ?_
 refine zf (zd ?_)
 refine zm F2 ?_ ?_ <;> intro C3 F3
 refine zb (za ?_)
 refine s_as ?_
 refine zf (zd (zh (zg (zn ?_))))
 cases F3
 exact zl [] [] Tryz.results191
 refine zi (zd (zb (za ?_)))
 refine s_mv ?_
 refine s_mv ?_
 obtain ⟨v4, V4, F4⟩ := zc F3
 refine zM rI V4 rfl yE24 ?_
 refine zu yA3 ?_
 refine s_as ?_
 refine zf (zd (zh (zn ?_)))
 cases F4
 exact zl [] [] Tryz.results191
def m_impl_rowsOk_1_AC (fuel : Nat) : Prop := ∀ (x1 : Form) (o1 : Bool) (o2 : (List Form)) (o3 : (List Int)) (o4 : Int) (r : Bool), zfT fuel x1 o1 o2 o3 o4 = some r → AC Tryz.prog 192 [.ag [.t (.sc (.int .i64 x1.kind)), .t (.sc (.str x1.name)), .t (.sc (.int .i64 x1.n)), .t (.sl (x1.scopes.map rI)), .t (.sl (x1.kids.map Form.row))], .rf 9000 0, .rf 9001 0, .rf 9002 0, .rf 9003 0] (objs [(9000, .box [.t (.sc (.bool o1))]), (9001, .box [.t (.sl (o2.map Form.row))]), (9002, .box [.t (.sl (o3.map rI))]), (9003, .box [.t (.sc (.int .i64 o4))])]) (.tp []) (objs [(9000, .box [.t (.sc (.bool r))]), (9001, .box [.t (.sl (o2.map Form.row))]), (9002, .box [.t (.sl (o3.map rI))]), (9003, .box [.t (.sc (.int .i64 o4))])])
theorem m_impl_rowsOk_1_ok (fuel : Nat) : m_impl_rowsOk_1_AC fuel := by
 intro x1 o1 o2 o3 o4 r F0
 unfold zfT at F0
 refine AC_i [] Tryz.func192 rfl Tryz.ntmps192 ?_
 intro C hC
 refine zb (za ?_)
 refine zbf ?_
 refine zf (zd ?_)
 refine zW yMix (by kernel_rfl) ?_
 refine zu yA4 ?_
 refine s_mv ?_
 refine zo _ 7 F0 ?_ ?_ <;> intro C1 F1
 iterate 6 refine r_no rfl ?_
 refine zA ?_
 refine zac yS4 ?_
 refine zak (by kernel_rfl) ?_
 refine zhh ?_
 cases F1
 exact zl _ [] Tryz.results192
 refine zu yA25 ?_
 refine zu yA24 ?_
 refine zI yA27 yS27 ?_
 obtain ⟨v2, V2, F2⟩ := zc F1
 refine zv [] (zhg fuel _ _ _ _ V2) ?_
 refine zu yA3 ?_
 refine s_gt ?_
 refine zB ?_
 refine zac yS4 ?_
 refine zak (by kernel_rfl) ?_
 refine zhh ?_
 cases F2
 exact zl _ [] Tryz.results192
def zb5 (fuel : Nat) : Prop := ∀ (x1 : Form) (o1 : Bool) (o2 : (List Form)) (o3 : (List Int)) (o4 : Int) (r : Bool), zaT fuel x1 o1 o2 o3 o4 = some r → AC Tryz.prog 78 [.ag [.t (.sc (.int .i64 x1.kind)), .t (.sc (.str x1.name)), .t (.sc (.int .i64 x1.n)), .t (.sl (x1.scopes.map rI)), .t (.sl (x1.kids.map Form.row))], .fn 192 [.rf 9000 0, .rf 9001 0, .rf 9002 0, .rf 9003 0]] (objs [(9000, .box [.t (.sc (.bool o1))]), (9001, .box [.t (.sl (o2.map Form.row))]), (9002, .box [.t (.sl (o3.map rI))]), (9003, .box [.t (.sc (.int .i64 o4))])]) (.tp []) (objs [(9000, .box [.t (.sc (.bool r))]), (9001, .box [.t (.sl (o2.map Form.row))]), (9002, .box [.t (.sl (o3.map rI))]), (9003, .box [.t (.sc (.int .i64 o4))])])
theorem zgE (fu : Nat) (ih_m_impl_eachForm_rowsOk_1 : ∀ k, k ≤ fu → zb5 k) : zb5 (fu + 1) := by
 intro x1 o1 o2 o3 o4 r F0
 rw [zaT] at F0
 refine AC_i [] Tryz.func78 rfl Tryz.ntmps78 ?_
 intro C hC
 refine zb (za ?_)
 refine zbf ?_
 refine zf (zd (zb (za ?_)))
 refine s_mv ?_
 refine zI yA27 yS27 ?_
 obtain ⟨v1, V1, F1⟩ := zc F0
 refine z5 [(9000, 9000), (9001, 9001), (9002, 9002), (9003, 9003)] [] _ _ (m_impl_rowsOk_1_ok fu _ _ _ _ _ _ V1) ?_
 refine zf (zd (zb (za ?_)))
 refine s_fa zH ?_
 refine zu yA25 ?_
 refine zE yU25 ?_
 refine s_mv ?_
 refine zf (zd (zk ?_))
 refine za1 (β := Int × Bool) [5, 12, 13, 14, 15, 16, 17, 18, 19] [9000] [5] (fun a => [(12, .t (.sc (.int .i64 a.2.1)))]) (fun a => [(9000, .box [.t (.sc (.bool a.2.2))])]) (fun a => a.1 ≤ fu ∧ zaq a.1 x1 o2 o3 o4 a.2.1 a.2.2 = some r ∧ 0 ≤ a.2.1) (fu, 0, v1) ⟨Nat.le_refl _, F1, by simp⟩ ?_
 clear F1
 rintro ⟨fu, g2, g3⟩ ⟨hl4, F2, hn_g2⟩
 dsimp only at hl4 F2 hn_g2 ⊢
 obtain _ | fu := fu
 · rw [zaq] at F2; cases F2
 rw [zaq] at F2
 refine zb (za ?_)
 refine s_lt ?_
 refine zf (zd (zb ?_))
 refine zm F2 ?_ ?_ <;> intro C5 F3
 refine zT 10 (fun B6 => ?_)
 refine zi (zd (zb (zk (zb (za ?_)))))
 obtain ⟨v7, V7, F4⟩ := zc F3
 refine zM Form.row V7 (Form.row_eq _) yE25 ?_
 refine zan yA27 yS27 ?_
 refine z6 yZ27 ?_
 refine zac yS27 ?_
 refine zf (zd (za ?_))
 refine zI yA27 yS27 ?_
 refine s_mv ?_
 obtain ⟨v8, V8, F5⟩ := zc F4
 refine z5 [(9000, 9000), (9001, 9001), (9002, 9002), (9003, 9003)] [] _ _ (ih_m_impl_eachForm_rowsOk_1 fu (by omega) _ _ _ _ _ _ V8) ?_
 refine zf (zX (zd (za ?_)))
 refine zN (zaz C5 B6 hn_g2) ?_
 refine s_mv ?_
 refine zf ?_
 exact s_rn (fu, (g2 + 1), v8) ⟨by first | omega | (dsimp only; omega), F5, by first | omega | (dsimp only; omega)⟩
 refine zz (zq (zp (zr (zhh ?_))))
 cases F3
 exact zl _ [] Tryz.results78
theorem zgz (fuel : Nat) : zb5 fuel := by
 induction fuel using Nat.strongRecOn with
 | _ N ih =>
   cases N with
   | zero => exact (by intro x1 o1 o2 o3 o4 r h; rw [zaT] at h; cases h)
   | succ fu => exact zgE fu (fun k hk => (ih k (by omega)))
theorem zgF (fuel : Nat) : zb5 fuel := (zgz fuel)
def zfs (fuel : Nat) : Prop := ∀ (x1 : Form) (x2 : (List Form)) (x3 : (List Int)) (x4 : Int) (r : Bool), zcB fuel x1 x2 x3 x4 = some r → AC Tryz.prog 158 [.ag [.t (.sc (.int .i64 x1.kind)), .t (.sc (.str x1.name)), .t (.sc (.int .i64 x1.n)), .t (.sl (x1.scopes.map rI)), .t (.sl (x1.kids.map Form.row))], .t (.sl (x2.map Form.row)), .t (.sl (x3.map rI)), .t (.sc (.int .i64 x4))] noOb (.t (.sc (.bool r))) noOb
theorem m_impl_rowsOk_st (fu : Nat) (ih_m_impl_rowsOk : ∀ k, k ≤ fu → zfs k) : zfs (fu + 1) := by
 intro x1 x2 x3 x4 r F0
 rw [zcB] at F0
 refine AC_i [.t (.sc (.bool r))] Tryz.func158 rfl Tryz.ntmps158 ?_
 intro C hC
 refine zb (za ?_)
 iterate 4 refine zbf ?_
 refine s_as ?_
 refine zf (zd (zb (zb ?_)))
 refine zW yMix (by kernel_rfl) ?_
 refine zu yA25 ?_
 refine zu yA24 ?_
 refine zI yA27 yS27 ?_
 obtain ⟨v1, V1, F1⟩ := zc F0
 refine zv [] (zhg fu _ _ _ _ V1) ?_
 refine zu yA3 ?_
 refine s_gt ?_
 refine zak (by kernel_rfl) ?_
 refine zd ?_
 refine zm F1 ?_ ?_ <;> intro C2 F2
 refine zb (za ?_)
 refine s_as ?_
 refine zf (zd (zh (zg (zn ?_))))
 cases F2
 exact zl [] [] Tryz.results158
 refine zi (zd (zb (zb (za ?_))))
 refine s_fa zH ?_
 refine zu yA25 ?_
 refine zE yU25 ?_
 refine s_mv ?_
 refine zf (zd (zk ?_))
 refine za1 (β := Int) [8, 9, 10, 11, 12, 22, 23, 24, 25, 26, 27, 28, 29, 30, 31, 32, 33, 34, 35, 36, 37, 38, 39, 40, 41, 42, 43, 44, 45, 46, 47, 48, 49, 50, 51, 52, 53, 54, 55, 56, 57, 58] [] [10, 12] (fun a => [(22, .t (.sc (.int .i64 a.2)))]) (fun a => []) (fun a => a.1 ≤ fu ∧ zaQ a.1 x1 x2 x3 x4 a.2 = some r ∧ 0 ≤ a.2) (fu, 0) ⟨Nat.le_refl _, F2, by simp⟩ ?_
 clear F2
 rintro ⟨fu, g3⟩ ⟨hl4, F3, hn_g3⟩
 dsimp only at hl4 F3 hn_g3 ⊢
 obtain _ | fu := fu
 · rw [zaQ] at F3; cases F3
 rw [zaQ] at F3
 refine zb (za ?_)
 refine s_lt ?_
 refine zf (zd (zb ?_))
 refine zm F3 ?_ ?_ <;> intro C5 F4
 refine zT 20 (fun B6 => ?_)
 refine zi (zd (zb (zk (zb (za ?_)))))
 refine s_mv ?_
 obtain ⟨v7, V7, F5⟩ := zc F4
 refine zM Form.row V7 (Form.row_eq _) yE25 ?_
 refine zan yA27 yS27 ?_
 refine z6 yZ27 ?_
 refine s_as ?_
 refine zac yS27 ?_
 refine zf (zd (zb (zb (za ?_))))
 refine zI yA27 yS27 ?_
 obtain ⟨v8, V8, F6⟩ := zc F5
 refine zv [] (zcK fu _ _ _ V8) ?_
 refine zf (zd ?_)
 refine zm F6 ?_ ?_ <;> intro C9 F7
 refine zz (zq (zr (zd (za ?_))))
 refine zN (zaz C5 B6 hn_g3) ?_
 refine s_mv ?_
 refine zf ?_
 exact s_rn (fu, (g3 + 1)) ⟨by first | omega | (dsimp only; omega), F7, by first | omega | (dsimp only; omega)⟩
 refine zi (zd (zb (za ?_)))
 refine zu yA3 ?_
 refine s_as ?_
 refine zf (zd (zb (zb (za ?_))))
 refine s_mv ?_
 refine zN (zaz C5 B6 hn_g3) ?_
 refine s_fa zH ?_
 refine zu yA25 ?_
 refine zE yU25 ?_
 refine s_lt ?_
 refine s_mv ?_
 refine zo _ 36 F7 ?_ ?_ <;> intro C10 F8
 refine s_fa zH ?_
 refine zu yA25 ?_
 refine s_mv ?_
 refine zN (zaz C5 B6 hn_g3) ?_
 obtain ⟨v11, V11, F9⟩ := zc F8
 refine zM Form.row V11 (Form.row_eq _) yE25 ?_
 refine zan yA27 yS27 ?_
 obtain ⟨v12, V12, F10⟩ := zc F9
 refine zv [] (zcK fu _ _ _ V12) ?_
 refine zA ?_
 refine zf (zd ?_)
 refine zm F10 ?_ ?_ <;> intro C13 F11
 refine zb (za ?_)
 refine s_mv ?_
 refine zN rfl ?_
 refine s_as ?_
 refine zf (zd (zb (za ?_)))
 refine z6 yZ4 ?_
 refine zac yS4 ?_
 refine zf (zd (zb (za ?_)))
 refine zI yA27 yS27 ?_
 refine s_fn ?_
 obtain ⟨v14, V14, F12⟩ := zc F11
 refine z5 [(9000, 12), (9001, 5), (9002, 6), (9003, 7)] [] _ _ (zgF fu _ _ _ _ _ _ V14) ?_
 refine zf (zd (zb (za ?_)))
 refine zu yA4 ?_
 refine zbB ?_
 refine zf (zd ?_)
 refine zm F12 ?_ ?_ <;> intro C15 F13
 refine zb (za ?_)
 refine s_as ?_
 refine zf (zd (zh (zg (zj (zg (zx (zj (zg (zn ?_)))))))))
 cases F13
 exact zl [] [] Tryz.results158
 refine zi (zd (zb (za ?_)))
 refine zI yA27 yS27 ?_
 refine zu yA25 ?_
 refine zu yA24 ?_
 refine s_mv ?_
 obtain ⟨v16, V16, F14⟩ := zc F13
 refine zv [] (ih_m_impl_rowsOk fu (by omega) _ _ _ _ _ V16) ?_
 refine zbB ?_
 refine zf (zd ?_)
 refine zm F14 ?_ ?_ <;> intro C17 F15
 refine zb (za ?_)
 refine s_as ?_
 refine zf (zd (zh (zj (zg (zx (zj (zg (zn ?_))))))))
 cases F15
 exact zl [] [] Tryz.results158
 refine zi (zX (zd (za ?_)))
 refine zN (zaz C5 B6 hn_g3) ?_
 refine s_mv ?_
 refine zf ?_
 exact s_rn (fu, (g3 + 1)) ⟨by first | omega | (dsimp only; omega), F15, by first | omega | (dsimp only; omega)⟩
 refine zi (zd (zb (za ?_)))
 refine zI yA27 yS27 ?_
 refine zu yA25 ?_
 refine zu yA24 ?_
 refine s_mv ?_
 obtain ⟨v18, V18, F12⟩ := zc F11
 refine zv [] (ih_m_impl_rowsOk fu (by omega) _ _ _ _ _ V18) ?_
 refine zbB ?_
 refine zf (zd ?_)
 refine zm F12 ?_ ?_ <;> intro C19 F13
 refine zb (za ?_)
 refine s_as ?_
 refine zf (zd (zh (zj (zg (zx (zj (zg (zn ?_))))))))
 cases F13
 exact zl [] [] Tryz.results158
 refine zi (zX (zd (za ?_)))
 refine zN (zaz C5 B6 hn_g3) ?_
 refine s_mv ?_
 refine zf ?_
 exact s_rn (fu, (g3 + 1)) ⟨by first | omega | (dsimp only; omega), F13, by first | omega | (dsimp only; omega)⟩
 iterate 7 refine r_no rfl ?_
 refine zB ?_
 refine zf (zd (zaM rfl (zi (zd (zb (za ?_))))))
 refine zI yA27 yS27 ?_
 refine zu yA25 ?_
 refine zu yA24 ?_
 refine s_mv ?_
 obtain ⟨v20, V20, F9⟩ := zc F8
 refine zv [] (ih_m_impl_rowsOk fu (by omega) _ _ _ _ _ V20) ?_
 refine zbB ?_
 refine zf (zd ?_)
 refine zm F9 ?_ ?_ <;> intro C21 F10
 refine zb (za ?_)
 refine s_as ?_
 refine zf (zd (zh (zj (zg (zx (zj (zg (zn ?_))))))))
 cases F10
 exact zl [] [] Tryz.results158
 refine zi (zX (zd (za ?_)))
 refine zN (zaz C5 B6 hn_g3) ?_
 refine s_mv ?_
 refine zf ?_
 exact s_rn (fu, (g3 + 1)) ⟨by first | omega | (dsimp only; omega), F10, by first | omega | (dsimp only; omega)⟩
 refine zz (zq (zp (zr (zd (zb (za ?_))))))
 refine s_as ?_
 refine zf (zd (zh (zn ?_)))
 cases F4
 exact zl [] [] Tryz.results158
theorem m_impl_rowsOk_all (fuel : Nat) : zfs fuel := by
 induction fuel using Nat.strongRecOn with
 | _ N ih =>
   cases N with
   | zero => exact (by intro x1 x2 x3 x4 r h; rw [zcB] at h; cases h)
   | succ fu => exact m_impl_rowsOk_st fu (fun k hk => (ih k (by omega)))
theorem m_impl_rowsOk_ok (fuel : Nat) : zfs fuel := (m_impl_rowsOk_all fuel)
def m_impl_templateOk_AC (fuel : Nat) : Prop := ∀ (x1 : Form) (x2 : (List Form)) (x3 : (List Int)) (r : Bool), zdS fuel x1 x2 x3 = some r → AC Tryz.prog 103 [.ag [.t (.sc (.int .i64 x1.kind)), .t (.sc (.str x1.name)), .t (.sc (.int .i64 x1.n)), .t (.sl (x1.scopes.map rI)), .t (.sl (x1.kids.map Form.row))], .t (.sl (x2.map Form.row)), .t (.sl (x3.map rI))] noOb (.t (.sc (.bool r))) noOb
theorem m_impl_templateOk_ok (fuel : Nat) : m_impl_templateOk_AC fuel := by
 intro x1 x2 x3 r F0
 unfold zdS at F0
 refine AC_i [.t (.sc (.bool r))] Tryz.func103 rfl Tryz.ntmps103 ?_
 intro C hC
 refine zb (za ?_)
 refine zbf ?_
 refine s_as ?_
 refine zf (zd (zb (za ?_)))
 refine zI yA27 yS27 ?_
 obtain ⟨v1, V1, F1⟩ := zc F0
 refine zv [] (zdj fuel _ _ V1) ?_
 refine s_mv ?_
 refine zo _ 9 F1 ?_ ?_ <;> intro C2 F2
 refine zI yA27 yS27 ?_
 obtain ⟨v3, V3, F3⟩ := zc F2
 refine zv [] (zcK fuel _ _ _ V3) ?_
 refine zbB ?_
 refine zA ?_
 refine s_mv ?_
 refine zo _ 14 F3 ?_ ?_ <;> intro C4 F4
 refine zI yA27 yS27 ?_
 obtain ⟨v5, V5, F5⟩ := zc F4
 refine zv [] (m_impl_dotsOk_ok fuel _ _ _ V5) ?_
 refine zA ?_
 refine s_mv ?_
 refine zo _ 18 F5 ?_ ?_ <;> intro C6 F6
 refine zI yA27 yS27 ?_
 refine s_mv ?_
 refine s_mv ?_
 obtain ⟨v7, V7, F7⟩ := zc F6
 refine zv [] (m_impl_rowsOk_ok fuel _ _ _ _ _ V7) ?_
 refine zA ?_
 refine s_as ?_
 refine zf (zd (zh (zn ?_)))
 cases F7
 exact zl [] [] Tryz.results103
 iterate 4 refine r_no rfl ?_
 refine zB ?_
 refine s_as ?_
 refine zf (zd (zh (zn ?_)))
 cases F6
 exact zl [] [] Tryz.results103
 refine r_no rfl (r_no rfl ?_)
 refine zB ?_
 refine s_mv ?_
 iterate 4 refine r_no rfl ?_
 refine zB ?_
 refine s_as ?_
 refine zf (zd (zh (zn ?_)))
 cases F4
 exact zl [] [] Tryz.results103
 iterate 3 refine r_no rfl ?_
 refine zB ?_
 refine s_mv ?_
 refine r_no rfl (r_no rfl ?_)
 refine zB ?_
 refine s_mv ?_
 iterate 4 refine r_no rfl ?_
 refine zB ?_
 refine s_as ?_
 refine zf (zd (zh (zn ?_)))
 cases F2
 exact zl [] [] Tryz.results103
def m_spec_l5Texts_AC (fuel : Nat) : Prop := ∀  (r : (List (List ByteArray))), zga fuel  = some r → AC Tryz.prog 156 [] noOb (.t (.sl (r.map (rL rS)))) noOb
theorem m_spec_l5Texts_ok (fuel : Nat) : m_spec_l5Texts_AC fuel := by
 intro  r F0
 unfold zga at F0
 refine AC_i [.t (.sl (r.map (rL rS)))] Tryz.func156 rfl Tryz.ntmps156 ?_
 intro C hC
 refine zb (za ?_)
 refine s_as ?_
 refine zf (zd (zb (za ?_)))
 refine s_bs rS [(⟨#[40, 114, 117, 108, 101, 115, 32, 40, 41, 32, 40, 40, 95, 32, 97, 32, 98, 41, 32, 40, 108, 101, 116, 32, 40, 40, 116, 109, 112, 32, 97, 41, 41, 32, 40, 108, 105, 115, 116, 32, 98, 32, 116, 109, 112, 41, 41, 41, 41]⟩ : ByteArray), (⟨#[40, 115, 119, 97, 112, 32, 120, 32, 121, 41]⟩ : ByteArray)] yP36 yR9 ?_
 refine s_bs rS [(⟨#[40, 114, 117, 108, 101, 115, 32, 40, 41, 32, 40, 40, 95, 41, 32, 48, 41, 32, 40, 40, 95, 32, 97, 41, 32, 97, 41, 32, 40, 40, 95, 32, 97, 32, 98, 32, 46, 46, 46, 41, 32, 40, 105, 102, 32, 97, 32, 49, 32, 40, 111, 114, 32, 98, 32, 46, 46, 46, 41, 41, 41, 41]⟩ : ByteArray), (⟨#[40, 111, 114, 32, 120, 32, 121, 32, 122, 41]⟩ : ByteArray)] yP36 yR9 ?_
 refine s_bs rS [(⟨#[40, 114, 117, 108, 101, 115, 32, 40, 41, 32, 40, 40, 95, 32, 40, 40, 120, 32, 118, 41, 32, 46, 46, 46, 41, 32, 98, 111, 100, 121, 41, 32, 40, 40, 108, 97, 109, 98, 100, 97, 32, 40, 120, 32, 46, 46, 46, 41, 32, 98, 111, 100, 121, 41, 32, 118, 32, 46, 46, 46, 41, 41, 41]⟩ : ByteArray), (⟨#[40, 109, 121, 108, 101, 116, 32, 40, 40, 112, 32, 49, 41, 32, 40, 113, 32, 50, 41, 41, 32, 40, 102, 32, 112, 32, 113, 41, 41]⟩ : ByteArray)] yP36 yR9 ?_
 refine s_bs rS [(⟨#[40, 114, 117, 108, 101, 115, 32, 40, 101, 108, 115, 101, 41, 32, 40, 40, 95, 32, 101, 108, 115, 101, 32, 101, 41, 32, 101, 41, 32, 40, 40, 95, 32, 99, 32, 101, 32, 114, 32, 46, 46, 46, 41, 32, 40, 105, 102, 32, 99, 32, 101, 32, 40, 99, 111, 110, 100, 32, 114, 32, 46, 46, 46, 41, 41, 41, 41]⟩ : ByteArray), (⟨#[40, 99, 111, 110, 100, 32, 112, 32, 49, 32, 101, 108, 115, 101, 32, 50, 41]⟩ : ByteArray)] yP36 yR9 ?_
 refine s_bs rS [(⟨#[40, 114, 117, 108, 101, 115, 32, 40, 41, 32, 40, 40, 95, 32, 40, 97, 32, 98, 32, 46, 46, 46, 41, 32, 46, 46, 46, 41, 32, 40, 109, 32, 40, 97, 32, 46, 46, 46, 41, 32, 40, 40, 97, 32, 98, 32, 46, 46, 46, 41, 32, 46, 46, 46, 41, 32, 49, 41, 41, 41]⟩ : ByteArray), (⟨#[40, 109, 32, 40, 120, 32, 49, 32, 50, 41, 32, 40, 121, 41, 41]⟩ : ByteArray)] yP36 yR9 ?_
 refine s_bs rS [(⟨#[40, 114, 117, 108, 101, 115, 32, 40, 41, 32, 40, 40, 95, 32, 97, 32, 46, 46, 46, 41, 32, 40, 108, 105, 115, 116, 32, 97, 32, 46, 46, 46, 32, 97, 32, 46, 46, 46, 41, 41, 41]⟩ : ByteArray), (⟨#[40, 116, 119, 105, 99, 101, 32, 49, 32, 50, 41]⟩ : ByteArray)] yP36 yR9 ?_
 refine s_bs rS [(⟨#[40, 114, 117, 108, 101, 115, 32, 40, 41, 32, 40, 40, 95, 32, 97, 32, 46, 46, 46, 41, 32, 40, 40, 97, 32, 49, 41, 32, 46, 46, 46, 41, 41, 32, 40, 40, 95, 32, 98, 41, 32, 98, 41, 41]⟩ : ByteArray), (⟨#[40, 112, 97, 105, 114, 115, 32, 112, 32, 113, 41]⟩ : ByteArray)] yP36 yR9 ?_
 refine s_bs rS [(⟨#[40, 114, 117, 108, 101, 115, 32, 40, 41, 32, 40, 40, 95, 32, 97, 41, 32, 97, 41, 32, 40, 40, 95, 32, 53, 41, 32, 54, 41, 32, 40, 40, 95, 32, 97, 32, 98, 41, 32, 98, 41, 41]⟩ : ByteArray), (⟨#[40, 107, 32, 53, 41]⟩ : ByteArray)] yP36 yR9 ?_
 refine s_bs (rL rS) [[(⟨#[40, 114, 117, 108, 101, 115, 32, 40, 41, 32, 40, 40, 95, 32, 97, 32, 98, 41, 32, 40, 108, 101, 116, 32, 40, 40, 116, 109, 112, 32, 97, 41, 41, 32, 40, 108, 105, 115, 116, 32, 98, 32, 116, 109, 112, 41, 41, 41, 41]⟩ : ByteArray), (⟨#[40, 115, 119, 97, 112, 32, 120, 32, 121, 41]⟩ : ByteArray)], [(⟨#[40, 114, 117, 108, 101, 115, 32, 40, 41, 32, 40, 40, 95, 41, 32, 48, 41, 32, 40, 40, 95, 32, 97, 41, 32, 97, 41, 32, 40, 40, 95, 32, 97, 32, 98, 32, 46, 46, 46, 41, 32, 40, 105, 102, 32, 97, 32, 49, 32, 40, 111, 114, 32, 98, 32, 46, 46, 46, 41, 41, 41, 41]⟩ : ByteArray), (⟨#[40, 111, 114, 32, 120, 32, 121, 32, 122, 41]⟩ : ByteArray)], [(⟨#[40, 114, 117, 108, 101, 115, 32, 40, 41, 32, 40, 40, 95, 32, 40, 40, 120, 32, 118, 41, 32, 46, 46, 46, 41, 32, 98, 111, 100, 121, 41, 32, 40, 40, 108, 97, 109, 98, 100, 97, 32, 40, 120, 32, 46, 46, 46, 41, 32, 98, 111, 100, 121, 41, 32, 118, 32, 46, 46, 46, 41, 41, 41]⟩ : ByteArray), (⟨#[40, 109, 121, 108, 101, 116, 32, 40, 40, 112, 32, 49, 41, 32, 40, 113, 32, 50, 41, 41, 32, 40, 102, 32, 112, 32, 113, 41, 41]⟩ : ByteArray)], [(⟨#[40, 114, 117, 108, 101, 115, 32, 40, 101, 108, 115, 101, 41, 32, 40, 40, 95, 32, 101, 108, 115, 101, 32, 101, 41, 32, 101, 41, 32, 40, 40, 95, 32, 99, 32, 101, 32, 114, 32, 46, 46, 46, 41, 32, 40, 105, 102, 32, 99, 32, 101, 32, 40, 99, 111, 110, 100, 32, 114, 32, 46, 46, 46, 41, 41, 41, 41]⟩ : ByteArray), (⟨#[40, 99, 111, 110, 100, 32, 112, 32, 49, 32, 101, 108, 115, 101, 32, 50, 41]⟩ : ByteArray)], [(⟨#[40, 114, 117, 108, 101, 115, 32, 40, 41, 32, 40, 40, 95, 32, 40, 97, 32, 98, 32, 46, 46, 46, 41, 32, 46, 46, 46, 41, 32, 40, 109, 32, 40, 97, 32, 46, 46, 46, 41, 32, 40, 40, 97, 32, 98, 32, 46, 46, 46, 41, 32, 46, 46, 46, 41, 32, 49, 41, 41, 41]⟩ : ByteArray), (⟨#[40, 109, 32, 40, 120, 32, 49, 32, 50, 41, 32, 40, 121, 41, 41]⟩ : ByteArray)], [(⟨#[40, 114, 117, 108, 101, 115, 32, 40, 41, 32, 40, 40, 95, 32, 97, 32, 46, 46, 46, 41, 32, 40, 108, 105, 115, 116, 32, 97, 32, 46, 46, 46, 32, 97, 32, 46, 46, 46, 41, 41, 41]⟩ : ByteArray), (⟨#[40, 116, 119, 105, 99, 101, 32, 49, 32, 50, 41]⟩ : ByteArray)], [(⟨#[40, 114, 117, 108, 101, 115, 32, 40, 41, 32, 40, 40, 95, 32, 97, 32, 46, 46, 46, 41, 32, 40, 40, 97, 32, 49, 41, 32, 46, 46, 46, 41, 41, 32, 40, 40, 95, 32, 98, 41, 32, 98, 41, 41]⟩ : ByteArray), (⟨#[40, 112, 97, 105, 114, 115, 32, 112, 32, 113, 41]⟩ : ByteArray)], [(⟨#[40, 114, 117, 108, 101, 115, 32, 40, 41, 32, 40, 40, 95, 32, 97, 41, 32, 97, 41, 32, 40, 40, 95, 32, 53, 41, 32, 54, 41, 32, 40, 40, 95, 32, 97, 32, 98, 41, 32, 98, 41, 41]⟩ : ByteArray), (⟨#[40, 107, 32, 53, 41]⟩ : ByteArray)]] yP140 yR36 ?_
 refine s_as ?_
 refine zf (zd (zh (zn ?_)))
 cases F0
 exact zl [] [9] Tryz.results156
def m_spec_ParseRules_AC (fuel : Nat) : Prop := ∀ (x1 : Form) (r : ((List Form) × (List Rule) × Bool)), zcz fuel x1 = some r → AC Tryz.prog 157 [.ag [.t (.sc (.int .i64 x1.kind)), .t (.sc (.str x1.name)), .t (.sc (.int .i64 x1.n)), .t (.sl (x1.scopes.map rI)), .t (.sl (x1.kids.map Form.row))]] noOb (.tp [.t (.sl (r.1.map Form.row)), .t (.sl (r.2.1.map Rule.row)), .t (.sc (.bool r.2.2))]) noOb
theorem zgs (fuel : Nat) : m_spec_ParseRules_AC fuel := by
 intro x1 r F0
 unfold zcz at F0
 refine AC_i [.t (.sl (r.1.map Form.row)), .t (.sl (r.2.1.map Rule.row)), .t (.sc (.bool r.2.2))] Tryz.func157 rfl Tryz.ntmps157 ?_
 intro C hC
 refine zb (za ?_)
 refine zbf ?_
 iterate 3 refine s_as ?_
 refine zf (zd (zb (za ?_)))
 refine s_bs Form.row ([] : List Form) yP25 yR27 ?_
 refine s_as ?_
 refine zf (zd (zb (za ?_)))
 refine s_bs Rule.row ([] : List Rule) yP62 yR73 ?_
 refine s_as ?_
 refine zf (zd (zb ?_))
 refine zbk (α := Nat × Bool) [11, 12, 13, 14, 15, 16, 17, 18, 19, 20, 21, 22, 23, 24, 25, 26, 27, 28, 29, 30, 31, 32, 33, 34, 35, 36, 37, 38, 39, 40] [] [] (fun a => [(40, .t (.sc (.bool a.2)))]) (fun a => []) (fun a => a.1 ≤ fuel ∧ zaw a.1 x1 a.2 = some r) ?_ ?_
 refine za ?_
 refine zI yA27 yS27 ?_
 obtain ⟨v1, V1, F1⟩ := zc F0
 refine zv [] (zaK fuel _ _ V1) ?_
 refine zbB ?_
 refine s_mv ?_
 refine zo _ 14 F1 ?_ ?_ <;> intro C2 F2
 iterate 3 refine r_no rfl ?_
 refine zA ?_
 refine s_mv ?_
 iterate 4 refine r_no rfl ?_
 refine zA ?_
 refine s_mv ?_
 iterate 6 refine r_no rfl ?_
 refine zA ?_
 refine s_mv ?_
 iterate 6 refine r_no rfl ?_
 refine zA ?_
 refine zf ?_
 exact s_jn (fuel, true) ⟨by first | omega | (dsimp only; omega), F2⟩
 refine s_fa zc2 ?_
 refine zu yA3 ?_
 refine s_ne ?_
 refine zB ?_
 refine s_mv ?_
 refine zo _ 19 F2 ?_ ?_ <;> intro C3 F3
 iterate 4 refine r_no rfl ?_
 refine zA ?_
 refine s_mv ?_
 iterate 6 refine r_no rfl ?_
 refine zA ?_
 refine s_mv ?_
 iterate 6 refine r_no rfl ?_
 refine zA ?_
 refine zf ?_
 exact s_jn (fuel, true) ⟨by first | omega | (dsimp only; omega), F3⟩
 refine s_fa zH ?_
 refine zu yA25 ?_
 refine zE yU25 ?_
 refine s_lt ?_
 refine zB ?_
 refine s_mv ?_
 refine zo _ 25 F3 ?_ ?_ <;> intro C4 F4
 iterate 6 refine r_no rfl ?_
 refine zA ?_
 refine s_mv ?_
 iterate 6 refine r_no rfl ?_
 refine zA ?_
 refine zf ?_
 exact s_jn (fuel, true) ⟨by first | omega | (dsimp only; omega), F4⟩
 refine s_fa zH ?_
 refine zu yA25 ?_
 obtain ⟨v5, V5, F5⟩ := zc F4
 refine zM Form.row V5 (Form.row_eq _) yE25 ?_
 refine s_fa zdn ?_
 refine zu yA9 ?_
 refine s_neS ?_
 refine zB ?_
 refine s_mv ?_
 refine zo _ 33 F5 ?_ ?_ <;> intro C6 F6
 iterate 6 refine r_no rfl ?_
 refine zA ?_
 refine zf ?_
 exact s_jn (fuel, true) ⟨by first | omega | (dsimp only; omega), F6⟩
 refine s_fa zH ?_
 refine zu yA25 ?_
 obtain ⟨v7, V7, F7⟩ := zc F6
 refine zM Form.row V7 (Form.row_eq _) yE25 ?_
 refine s_fa zc2 ?_
 refine zu yA3 ?_
 refine s_ne ?_
 refine zB ?_
 refine zf ?_
 exact s_jn (fuel, (decide (v7.kind ≠ 3))) ⟨by first | omega | (dsimp only; omega), F7⟩
 clear F0
 rintro ⟨fu, g8⟩ ⟨hl9, F1⟩
 dsimp only at hl9 F1 ⊢
 obtain _ | fu := fu
 · rw [zaw] at F1; cases F1
 rw [zaw] at F1
 refine zm F1 ?_ ?_ <;> intro C10 F2
 refine zb (za ?_)
 refine s_mv ?_
 refine s_mv ?_
 iterate 3 refine s_as ?_
 refine zf (zd (zh (zg (zn ?_))))
 cases F2
 exact zl [] [9, 10] Tryz.results157
 refine zi (zd ?_)
 refine zbk (α := Nat × (List Form)) [5, 7, 43, 44, 45, 46, 47, 48, 49, 50, 51, 52, 53, 54, 55, 56, 57, 58, 59, 60, 61, 62, 63, 64] [9, 5060] [] (fun a => [(5, .ar 5060)]) (fun a => [(9, .dead), (5060, .arr (a.2.map Form.row) 27 true)]) (fun a => a.1 ≤ fu ∧ zb9 a.1 x1 a.2 = some r) ?_ ?_
 refine zb (za ?_)
 refine s_as ?_
 refine zf (zd (zk ?_))
 refine zdG 5 9 5060 (by conv => lhs; whnf) (by conv => lhs; whnf) rfl ?_
 refine zao [5, 7, 43, 44, 45, 46, 47, 48, 49, 50, 51, 52, 53, 54, 55, 56, 57, 58, 59, 60, 61, 62, 63, 64] [5060] [63, 64, 2062, 12062] [5060] (fun a : Nat × (List Form) × Int => a.1) (fun a : Nat × (List Form) × Int => [(5, .ar 5060), (7, .t (.sc (.int .i64 a.2.2)))]) (fun a : Nat × (List Form) × Int => [(5060, .arr (a.2.1.map Form.row) 27 true)]) (fun a : Nat × (List Form) × Int => a.1 ≤ fu ∧ za7 a.1 x1 a.2.1 a.2.2 = some r ∧ 0 ≤ a.2.2) (fu, ([] : List Form), 0) ⟨Nat.le_refl _, F2, by simp⟩ (by rfl) (by rfl) (fun _ => rfl) (zG (by conv => lhs; whnf) (by rfl) (zG (by conv => lhs; whnf) (by rfl) za3)) (zV (by conv => lhs; whnf) (by rfl) zaU) (zb8 hC rfl) (by repeat (first | exact zag rfl | refine zau rfl ?_ | refine zZ rfl ?_)) (by repeat (first | exact zaI | exact zal rfl | refine zav rfl ?_ | refine z4 rfl ?_)) ?_
 clear F2
 rintro ⟨fu, g11, g12⟩ ⟨hl13, F3, hn_g12⟩
 dsimp only at hl13 F3 hn_g12 ⊢
 obtain _ | fu := fu
 · rw [za7] at F3; cases F3
 rw [za7] at F3
 refine zb (zb (za ?_))
 refine s_mv ?_
 refine s_fa zH ?_
 refine zu yA25 ?_
 obtain ⟨v14, V14, F4⟩ := zc F3
 refine zM Form.row V14 (Form.row_eq _) yE25 ?_
 refine s_fa zH ?_
 refine zu yA25 ?_
 refine zE yU25 ?_
 refine s_lt ?_
 refine zf (zd ?_)
 refine zm F4 ?_ ?_ <;> intro C15 F5
 refine zT 48 (fun B16 => ?_)
 refine zi (zd (zb (zk (za ?_))))
 refine s_mv ?_
 refine s_fa zH ?_
 refine zu yA25 ?_
 obtain ⟨v17, V17, F6⟩ := zc F5
 refine zM Form.row V17 (Form.row_eq _) yE25 ?_
 refine s_fa zH ?_
 refine zu yA25 ?_
 refine s_mv ?_
 obtain ⟨v18, V18, F7⟩ := zc F6
 refine zM Form.row V18 (Form.row_eq _) yE25 ?_
 refine zan yA27 yS27 ?_
 obtain ⟨v19, V19, F8⟩ := zc F7
 refine z5 [(9203, 2062), (9204, 12062)] [] _ _ (zbQ fu _ _ V19) ?_
 refine s_bs Form.row [v19] yP25 yR27 ?_
 obtain ⟨hk20, F9⟩ := zah F8
 refine zdX Form.row (fun y => Form.row_len y) hk20 yP25 ?_
 refine s_as ?_
 refine zf (zX (zd (za ?_)))
 refine s_mv ?_
 refine zN (zaz C15 B16 hn_g12) ?_
 refine s_as ?_
 refine zf ?_
 exact s_rn (fu, (g11 ++ [v19]), (g12 + 1)) ⟨by first | omega | (dsimp only; omega), F9, by first | omega | (dsimp only; omega)⟩ [(5060, 64)]
 refine zz (zq (zp (zr ?_)))
 exact s_jn (fu, g11) ⟨by first | omega | (dsimp only; omega), F5⟩
 clear F2
 rintro ⟨fu, g21⟩ ⟨hl22, F3⟩
 dsimp only at hl22 F3 ⊢
 obtain _ | fu := fu
 · rw [zb9] at F3; cases F3
 rw [zb9] at F3
 refine zbk (α := Nat × (List Rule)) [2, 3, 4, 6, 8, 65, 66, 67, 68, 69, 70, 71, 72, 73, 74, 75, 76, 77, 78, 79, 80, 81, 82, 83, 84, 85, 86, 87, 88, 89, 90, 91, 92, 93, 94, 95, 96, 97, 98, 99, 100, 101, 102, 103, 104, 105, 106, 107, 108, 109, 110, 111, 112] [10, 5100] [] (fun a => [(6, .ar 5100)]) (fun a => [(10, .dead), (5100, .arr (a.2.map Rule.row) 73 true)]) (fun a => a.1 ≤ fu ∧ zcY a.1 g21 a.2 = some r) ?_ ?_
 refine zb (za ?_)
 refine s_as ?_
 refine zf (zd (zk ?_))
 refine zdG 6 10 5100 (by conv => lhs; whnf) (by conv => lhs; whnf) rfl ?_
 refine zao [2, 3, 4, 6, 8, 65, 66, 67, 68, 69, 70, 71, 72, 73, 74, 75, 76, 77, 78, 79, 80, 81, 82, 83, 84, 85, 86, 87, 88, 89, 90, 91, 92, 93, 94, 95, 96, 97, 98, 99, 100, 101, 102, 103, 104, 105, 106, 107, 108, 109, 110, 111, 112] [5100] [111, 112, 2100, 2109, 12100, 12109] [5100] (fun a : Nat × (List Rule) × Int => a.1) (fun a : Nat × (List Rule) × Int => [(6, .ar 5100), (8, .t (.sc (.int .i64 a.2.2)))]) (fun a : Nat × (List Rule) × Int => [(5100, .arr (a.2.1.map Rule.row) 73 true)]) (fun a : Nat × (List Rule) × Int => a.1 ≤ fu ∧ za6 a.1 x1 g21 a.2.1 a.2.2 = some r ∧ 0 ≤ a.2.2) (fu, ([] : List Rule), 2) ⟨Nat.le_refl _, F3, by simp⟩ (by rfl) (by rfl) (fun _ => rfl) (zG (by conv => lhs; whnf) (by rfl) (zG (by conv => lhs; whnf) (by rfl) za3)) (zV (by conv => lhs; whnf) (by rfl) zaU) (zb8 hC rfl) (by repeat (first | exact zag rfl | refine zau rfl ?_ | refine zZ rfl ?_)) (by repeat (first | exact zaI | exact zal rfl | refine zav rfl ?_ | refine z4 rfl ?_)) ?_
 clear F3
 rintro ⟨fu, g23, g24⟩ ⟨hl25, F4, hn_g24⟩
 dsimp only at hl25 F4 hn_g24 ⊢
 obtain _ | fu := fu
 · rw [za6] at F4; cases F4
 rw [za6] at F4
 refine zb (zb (za ?_))
 refine s_mv ?_
 refine s_fa zH ?_
 refine zu yA25 ?_
 refine zE yU25 ?_
 refine s_lt ?_
 refine zf (zd ?_)
 refine zm F4 ?_ ?_ <;> intro C26 F5
 refine zT 67 (fun B27 => ?_)
 refine zi (zd (zb (zk (zb ?_))))
 refine zbk (α := Nat × Bool) [72, 73, 74, 75, 76, 77, 78, 79, 80, 81, 82, 83, 84, 85, 86, 87, 88] [] [] (fun a => [(88, .t (.sc (.bool a.2)))]) (fun a => []) (fun a => a.1 ≤ fu ∧ za8 a.1 x1 g21 g23 g24 a.2 = some r) ?_ ?_
 refine za ?_
 refine s_fa zH ?_
 refine zu yA25 ?_
 refine s_mv ?_
 obtain ⟨v28, V28, F6⟩ := zc F5
 refine zM Form.row V28 (Form.row_eq _) yE25 ?_
 refine s_fa zc2 ?_
 refine zu yA3 ?_
 refine s_ne ?_
 refine s_mv ?_
 refine zo _ 79 F6 ?_ ?_ <;> intro C29 F7
 iterate 8 refine r_no rfl ?_
 refine zA ?_
 refine zf ?_
 exact s_jn (fu, true) ⟨by first | omega | (dsimp only; omega), F7⟩
 refine s_fa zH ?_
 refine zu yA25 ?_
 refine s_mv ?_
 obtain ⟨v30, V30, F8⟩ := zc F7
 refine zM Form.row V30 (Form.row_eq _) yE25 ?_
 refine s_fa zH ?_
 refine zu yA25 ?_
 refine zE yU25 ?_
 refine s_ne ?_
 refine zB ?_
 refine zf ?_
 exact s_jn (fu, (decide ((v30.kids.length : Int) ≠ 2))) ⟨by first | omega | (dsimp only; omega), F8⟩
 clear F5
 rintro ⟨fu, g31⟩ ⟨hl32, F6⟩
 dsimp only at hl32 F6 ⊢
 obtain _ | fu := fu
 · rw [za8] at F6; cases F6
 rw [za8] at F6
 refine zm F6 ?_ ?_ <;> intro C33 F7
 refine zb (za ?_)
 refine s_bs Form.row ([] : List Form) yP25 yR27 ?_
 refine s_bs Rule.row ([] : List Rule) yP62 yR73 ?_
 iterate 3 refine s_as ?_
 refine zf (zd (zh (zg (zj (zg (zx (zj (ze2 (zn ?_)))))))))
 cases F7
 exact zl [] [89, 90] Tryz.results157
 refine zi (zd ?_)
 refine zW yMix (by kernel_rfl) ?_
 refine s_mv ?_
 refine s_fa zH ?_
 refine zu yA25 ?_
 refine s_mv ?_
 obtain ⟨v34, V34, F8⟩ := zc F7
 refine zM Form.row V34 (Form.row_eq _) yE25 ?_
 refine s_fa zH ?_
 refine zu yA25 ?_
 obtain ⟨v35, V35, F9⟩ := zc F8
 refine zM Form.row V35 (Form.row_eq _) yE25 ?_
 refine zan yA27 yS27 ?_
 obtain ⟨v36, V36, F10⟩ := zc F9
 refine z5 [(9203, 2100), (9204, 12100)] [] _ _ (zbQ fu _ _ V36) ?_
 refine s_fa zH ?_
 refine zu yA25 ?_
 refine s_mv ?_
 obtain ⟨v37, V37, F11⟩ := zc F10
 refine zM Form.row V37 (Form.row_eq _) yE25 ?_
 refine s_fa zH ?_
 refine zu yA25 ?_
 obtain ⟨v38, V38, F12⟩ := zc F11
 refine zM Form.row V38 (Form.row_eq _) yE25 ?_
 refine zan yA27 yS27 ?_
 obtain ⟨v39, V39, F13⟩ := zc F12
 refine z5 [(9203, 2109), (9204, 12109)] [] _ _ (zbQ fu _ _ V39) ?_
 refine zeH yZ73 yL73 ?_
 refine s_bs Rule.row [(Rule.mk v36 v39)] yP62 yR73 ?_
 obtain ⟨hk40, F14⟩ := zah F13
 refine zdX Rule.row (fun y => Rule.row_len y) hk40 yP62 ?_
 refine s_as ?_
 refine zak (by kernel_rfl) ?_
 refine zX (zd (za ?_))
 refine s_mv ?_
 refine zN (zaz C26 B27 hn_g24) ?_
 refine s_as ?_
 refine zf ?_
 exact s_rn (fu, (g23 ++ [(Rule.mk v36 v39)]), (g24 + 1)) ⟨by first | omega | (dsimp only; omega), F14, by first | omega | (dsimp only; omega)⟩ [(5100, 112)]
 refine zz (zq (zp (zr ?_)))
 exact s_jn (fu, g23) ⟨by first | omega | (dsimp only; omega), F5⟩
 clear F3
 rintro ⟨fu, g41⟩ ⟨hl42, F4⟩
 dsimp only at hl42 F4 ⊢
 obtain _ | fu := fu
 · rw [zcY] at F4; cases F4
 rw [zcY] at F4
 refine zb (zb (za ?_))
 refine s_mv ?_
 refine s_mv ?_
 obtain ⟨v43, V43, F5⟩ := zc F4
 refine zv [5100, 5060] (zg8 fu _ _ _ V43) ?_
 refine zbB ?_
 refine zf (zd ?_)
 refine zm F5 ?_ ?_ <;> intro C44 F6
 refine zb (za ?_)
 refine s_bs Form.row ([] : List Form) yP25 yR27 ?_
 refine s_bs Rule.row ([] : List Rule) yP62 yR73 ?_
 iterate 3 refine s_as ?_
 refine zf (zd (zh (zg (zn ?_))))
 cases F6
 exact zl [] [117, 118] Tryz.results157
 refine zi (zd (zb (za ?_)))
 refine s_mv ?_
 refine s_mv ?_
 iterate 3 refine s_as ?_
 refine zf (zd (zh (zn ?_)))
 cases F6
 exact zl [] [5060, 5100] Tryz.results157
end Go.Abs
