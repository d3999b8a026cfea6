/- A part of the proof: what the functions that the law calls answer, as pure values. -/
import Derived.Test.YtjjjnhpghhamkaaGreatKac1bd4e93480
import Derived.Test.YtjjjnhpghhamkaaGreatK7ac0b3551e5d
import Derived.Test.YtjjjnhpghhamkaaGreatKf78df5a3dadb
import Derived.Test.YtjjjnhpghhamkaaGreatK17049cea853b
import Derived.Test.YtjjjnhpghhamkaaGreatKffe405a2eb68
set_option linter.unusedSimpArgs false
set_option linter.unusedVariables false
set_option maxRecDepth 100000
set_option maxHeartbeats 4000000
namespace Go.Abs
open Go.Proofs
theorem m_impl_formOk_all (fuel : Nat) : zft fuel := by
 induction fuel using Nat.strongRecOn with
 | _ N ih =>
   cases N with
   | zero => exact (by intro x1 x2 o1 r h; rw [zd3] at h; cases h)
   | succ fu => exact m_impl_formOk_st fu (fun k hk => (ih k (by omega)))
theorem m_impl_formOk_ok (fuel : Nat) : zft fuel := (m_impl_formOk_all fuel)
def m_impl_FormValid_AC (fuel : Nat) : Prop := ∀ (x1 : Form) (r : Bool), zbR fuel x1 = some r → AC Tryz.prog 53 [.ag [.t (.sc (.int .i64 x1.kind)), .t (.sc (.str x1.name)), .t (.sc (.int .i64 x1.n)), .t (.sl (x1.scopes.map rI)), .t (.sl (x1.kids.map Form.row))]] noOb (.t (.sc (.bool r))) noOb
theorem zdj (fuel : Nat) : m_impl_FormValid_AC fuel := by
 intro x1 r F0
 unfold zbR at F0
 refine AC_i [.t (.sc (.bool r))] Tryz.func53 rfl Tryz.ntmps53 ?_
 intro C hC
 refine zb (za ?_)
 refine zbf ?_
 refine s_as ?_
 refine zf (zd (zb (za ?_)))
 refine z6 yZ3 ?_
 refine zac yS3 ?_
 refine zf (zd (zb (za ?_)))
 refine zI yA27 yS27 ?_
 obtain ⟨v1, V1, F1⟩ := zc F0
 refine z5 [(9000, 3)] [] _ _ (m_impl_formOk_ok fuel _ _ _ _ V1) ?_
 refine s_as ?_
 refine zf (zd (zh (zn ?_)))
 cases F1
 exact zl [] [] Tryz.results53
def m_impl_isName_AC (fuel : Nat) : Prop := ∀ (x1 : Form) (r : Bool), zfU fuel x1 = some r → AC Tryz.prog 139 [.ag [.t (.sc (.int .i64 x1.kind)), .t (.sc (.str x1.name)), .t (.sc (.int .i64 x1.n)), .t (.sl (x1.scopes.map rI)), .t (.sl (x1.kids.map Form.row))]] noOb (.t (.sc (.bool r))) noOb
theorem m_impl_isName_ok (fuel : Nat) : m_impl_isName_AC fuel := by
 intro x1 r F0
 unfold zfU at F0
 refine AC_i [.t (.sc (.bool r))] Tryz.func139 rfl Tryz.ntmps139 ?_
 intro C hC
 refine zb (za ?_)
 refine zbf ?_
 refine s_as ?_
 refine zf (zd (zb (za ?_)))
 refine s_fa zc2 ?_
 refine zu yA3 ?_
 refine s_eq ?_
 refine s_mv ?_
 refine zo _ 6 F0 ?_ ?_ <;> intro C1 F1
 refine zI yA27 yS27 ?_
 obtain ⟨v2, V2, F2⟩ := zc F1
 refine zv [] (zdj fuel _ _ V2) ?_
 refine zA ?_
 refine s_as ?_
 refine zf (zd (zh (zn ?_)))
 cases F2
 exact zl [] [] Tryz.results139
 refine r_no rfl (r_no rfl ?_)
 refine zB ?_
 refine s_as ?_
 refine zf (zd (zh (zn ?_)))
 cases F1
 exact zl [] [] Tryz.results139
def zdF (fuel : Nat) : Prop := ∀ (x1 : Form) (x2 : Form) (r : Bool), zar fuel x1 x2 = some r → AC Tryz.prog 20 [.ag [.t (.sc (.int .i64 x1.kind)), .t (.sc (.str x1.name)), .t (.sc (.int .i64 x1.n)), .t (.sl (x1.scopes.map rI)), .t (.sl (x1.kids.map Form.row))], .ag [.t (.sc (.int .i64 x2.kind)), .t (.sc (.str x2.name)), .t (.sc (.int .i64 x2.n)), .t (.sl (x2.scopes.map rI)), .t (.sl (x2.kids.map Form.row))]] noOb (.t (.sc (.bool r))) noOb
def za0 (fuel : Nat) : Prop := ∀ (x1 : (List Form)) (x2 : (List Form)) (r : Bool), zaL fuel x1 x2 = some r → AC Tryz.prog 81 [.t (.sl (x1.map Form.row)), .t (.sl (x2.map Form.row)), .fn 20 []] noOb (.t (.sc (.bool r))) noOb
theorem m_impl_FormSame_st (fu : Nat) (ih_m_impl_FormSame : ∀ k, k ≤ fu → zdF k) (ih_m_slices_EqualFunc_Form_FormSame : ∀ k, k ≤ fu → za0 k) : zdF (fu + 1) := by
 intro x1 x2 r F0
 rw [zar] at F0
 refine AC_i [.t (.sc (.bool r))] Tryz.func20 rfl Tryz.ntmps20 ?_
 intro C hC
 refine zb (za ?_)
 refine zbf ?_
 refine zbf ?_
 refine s_as ?_
 refine zf (zd (zb (za ?_)))
 refine s_fa zc2 ?_
 refine zu yA3 ?_
 refine s_fa zc2 ?_
 refine zu yA3 ?_
 refine s_eq ?_
 refine s_mv ?_
 refine zo _ 10 F0 ?_ ?_ <;> intro C1 F1
 refine s_fa zdn ?_
 refine zu yA9 ?_
 refine s_fa zdn ?_
 refine zu yA9 ?_
 refine zg6 ?_
 refine zA ?_
 refine s_mv ?_
 refine zo _ 17 F1 ?_ ?_ <;> intro C2 F2
 refine s_fa zge ?_
 refine zu yA3 ?_
 refine s_fa zge ?_
 refine zu yA3 ?_
 refine s_eq ?_
 refine zA ?_
 refine s_mv ?_
 refine zo _ 24 F2 ?_ ?_ <;> intro C3 F3
 refine s_fa ze5 ?_
 refine zu yA24 ?_
 refine s_fa ze5 ?_
 refine zu yA24 ?_
 obtain ⟨v4, V4, F4⟩ := zc F3
 refine zv [] (m_slices_Equal_int_ok fu _ _ _ V4) ?_
 refine zA ?_
 refine s_mv ?_
 refine zo _ 31 F4 ?_ ?_ <;> intro C5 F5
 refine s_fa zH ?_
 refine zu yA25 ?_
 refine s_fa zH ?_
 refine zu yA25 ?_
 obtain ⟨v6, V6, F6⟩ := zc F5
 refine zv [] (ih_m_slices_EqualFunc_Form_FormSame fu (by omega) _ _ _ V6) ?_
 refine zA ?_
 refine s_as ?_
 refine zf (zd (zh (zn ?_)))
 cases F6
 exact zl [] [] Tryz.results20
 iterate 5 refine r_no rfl ?_
 refine zB ?_
 refine s_as ?_
 refine zf (zd (zh (zn ?_)))
 cases F5
 exact zl [] [] Tryz.results20
 iterate 5 refine r_no rfl ?_
 refine zB ?_
 refine s_mv ?_
 iterate 5 refine r_no rfl ?_
 refine zB ?_
 refine s_as ?_
 refine zf (zd (zh (zn ?_)))
 cases F3
 exact zl [] [] Tryz.results20
 iterate 5 refine r_no rfl ?_
 refine zB ?_
 refine s_mv ?_
 iterate 5 refine r_no rfl ?_
 refine zB ?_
 refine s_mv ?_
 iterate 5 refine r_no rfl ?_
 refine zB ?_
 refine s_as ?_
 refine zf (zd (zh (zn ?_)))
 cases F2
 exact zl [] [] Tryz.results20
 iterate 5 refine r_no rfl ?_
 refine zB ?_
 refine s_mv ?_
 iterate 5 refine r_no rfl ?_
 refine zB ?_
 refine s_mv ?_
 iterate 5 refine r_no rfl ?_
 refine zB ?_
 refine s_mv ?_
 iterate 5 refine r_no rfl ?_
 refine zB ?_
 refine s_as ?_
 refine zf (zd (zh (zn ?_)))
 cases F1
 exact zl [] [] Tryz.results20
theorem zfz (fu : Nat) (ih_m_impl_FormSame : ∀ k, k ≤ fu → zdF k) (ih_m_slices_EqualFunc_Form_FormSame : ∀ k, k ≤ fu → za0 k) : za0 (fu + 1) := by
 intro x1 x2 r F0
 rw [zaL] at F0
 refine AC_i [.t (.sc (.bool r))] Tryz.func81 rfl Tryz.ntmps81 ?_
 intro C hC
 refine zb (za ?_)
 refine s_as ?_
 refine zf (zd (zb (zb (za ?_))))
 refine s_mv ?_
 refine zE yU25 ?_
 refine s_mv ?_
 refine zE yU25 ?_
 refine s_ne ?_
 refine zf (zd ?_)
 refine zm F0 ?_ ?_ <;> intro C1 F1
 refine zb (za ?_)
 refine s_as ?_
 refine zf (zd (zh (zg (zn ?_))))
 cases F1
 exact zl [] [] Tryz.results81
 refine zi (zd (zb (zb (za ?_))))
 refine s_mv ?_
 refine zE yU25 ?_
 refine s_mv ?_
 refine zf (zd (zk ?_))
 refine za1 (β := Int) [6, 7, 8, 9, 17, 18, 19, 20, 21, 22, 23, 24, 25, 26, 27, 28, 29, 30, 31] [] [8, 9] (fun a => [(17, .t (.sc (.int .i64 a.2)))]) (fun a => []) (fun a => a.1 ≤ fu ∧ zaa a.1 x1 x2 a.2 = some r ∧ 0 ≤ a.2) (fu, 0) ⟨Nat.le_refl _, F1, by simp⟩ ?_
 clear F1
 rintro ⟨fu, g2⟩ ⟨hl3, F2, hn_g2⟩
 dsimp only at hl3 F2 hn_g2 ⊢
 obtain _ | fu := fu
 · rw [zaa] at F2; cases F2
 rw [zaa] at F2
 refine zb (za ?_)
 refine s_lt ?_
 refine zf (zd (zb ?_))
 refine zm F2 ?_ ?_ <;> intro C4 F3
 refine zT 0 (fun B5 => ?_)
 refine zi (zd (zb (zk (zb (za ?_)))))
 refine s_mv ?_
 obtain ⟨v6, V6, F4⟩ := zc F3
 refine zM Form.row V6 (Form.row_eq _) yE25 ?_
 refine zan yA27 yS27 ?_
 refine z6 yZ27 ?_
 refine s_as ?_
 refine zac yS27 ?_
 refine zf (zd (zb (za ?_)))
 refine s_mv ?_
 refine s_mv ?_
 obtain ⟨v7, V7, F5⟩ := zc F4
 refine zM Form.row V7 (Form.row_eq _) yE25 ?_
 refine zan yA27 yS27 ?_
 refine z6 yZ27 ?_
 refine zac yS27 ?_
 refine zf (zd (zb (za ?_)))
 refine s_mv ?_
 refine zI yA27 yS27 ?_
 refine zI yA27 yS27 ?_
 obtain ⟨v8, V8, F6⟩ := zc F5
 refine zv [] (ih_m_impl_FormSame fu (by omega) _ _ _ V8) ?_
 refine zbB ?_
 refine zf (zd ?_)
 refine zm F6 ?_ ?_ <;> intro C9 F7
 refine zb (za ?_)
 refine s_as ?_
 refine zf (zd (zh (zj (zg (zx (zj (zg (zn ?_))))))))
 cases F7
 exact zl [] [] Tryz.results81
 refine zi (zX (zd (za ?_)))
 refine zN (zaz C4 B5 hn_g2) ?_
 refine s_mv ?_
 refine zf ?_
 exact s_rn (fu, (g2 + 1)) ⟨by first | omega | (dsimp only; omega), F7, by first | omega | (dsimp only; omega)⟩
 refine zz (zq (zp (zr (zd (zb (za ?_))))))
 refine s_as ?_
 refine zf (zd (zh (zn ?_)))
 cases F3
 exact zl [] [] Tryz.results81
theorem m_impl_FormSame_all (fuel : Nat) : zdF fuel ∧ za0 fuel := by
 induction fuel using Nat.strongRecOn with
 | _ N ih =>
   cases N with
   | zero => exact ⟨(by intro x1 x2 r h; rw [zar] at h; cases h), (by intro x1 x2 r h; rw [zaL] at h; cases h)⟩
   | succ fu => exact ⟨m_impl_FormSame_st fu (fun k hk => (ih k (by omega)).1) (fun k hk => (ih k (by omega)).2), zfz fu (fun k hk => (ih k (by omega)).1) (fun k hk => (ih k (by omega)).2)⟩
theorem zbj (fuel : Nat) : zdF fuel := (m_impl_FormSame_all fuel).1
def m_impl_named_AC (fuel : Nat) : Prop := ∀ (x1 : Form) (x2 : ByteArray) (r : Bool), zcp fuel x1 x2 = some r → AC Tryz.prog 68 [.ag [.t (.sc (.int .i64 x1.kind)), .t (.sc (.str x1.name)), .t (.sc (.int .i64 x1.n)), .t (.sl (x1.scopes.map rI)), .t (.sl (x1.kids.map Form.row))], .t (.sc (.str x2))] noOb (.t (.sc (.bool r))) noOb
theorem zcK (fuel : Nat) : m_impl_named_AC fuel := by
 intro x1 x2 r F0
 unfold zcp at F0
 refine AC_i [.t (.sc (.bool r))] Tryz.func68 rfl Tryz.ntmps68 ?_
 intro C hC
 refine zb (za ?_)
 refine zbf ?_
 refine s_as ?_
 refine zf (zd (zb (za ?_)))
 refine s_fa zc2 ?_
 refine zu yA3 ?_
 refine s_eq ?_
 refine s_mv ?_
 refine zo _ 8 F0 ?_ ?_ <;> intro C1 F1
 refine s_fa zdn ?_
 refine zu yA9 ?_
 refine s_mv ?_
 refine zg6 ?_
 refine zA ?_
 refine s_as ?_
 refine zf (zd (zh (zn ?_)))
 cases F1
 exact zl [] [] Tryz.results68
 iterate 4 refine r_no rfl ?_
 refine zB ?_
 refine s_as ?_
 refine zf (zd (zh (zn ?_)))
 cases F1
 exact zl [] [] Tryz.results68
def m_impl_dotsAt_1_AC (fuel : Nat) : Prop := ∀ (x1 : Form) (r : Bool), zeP fuel x1 = some r → AC Tryz.prog 179 [.ag [.t (.sc (.int .i64 x1.kind)), .t (.sc (.str x1.name)), .t (.sc (.int .i64 x1.n)), .t (.sl (x1.scopes.map rI)), .t (.sl (x1.kids.map Form.row))]] noOb (.t (.sc (.bool r))) noOb
theorem m_impl_dotsAt_1_ok (fuel : Nat) : m_impl_dotsAt_1_AC fuel := by
 intro x1 r F0
 unfold zeP at F0
 refine AC_i [.t (.sc (.bool r))] Tryz.func179 rfl Tryz.ntmps179 ?_
 intro C hC
 refine zb (za ?_)
 refine zbf ?_
 refine s_as ?_
 refine zf (zd (zb (za ?_)))
 refine zI yA27 yS27 ?_
 obtain ⟨v1, V1, F1⟩ := zc F0
 refine zv [] (zcK fuel _ _ _ V1) ?_
 refine s_as ?_
 refine zf (zd (zh (zn ?_)))
 cases F1
 exact zl [] [] Tryz.results179
def zfy (fuel : Nat) : Prop := ∀ (x1 : (List Form)) (r : Int), zbn fuel x1 = some r → AC Tryz.prog 178 [.t (.sl (x1.map Form.row)), .fn 179 []] noOb (.t (.sc (.int .i64 r))) noOb
theorem zfx (fuel : Nat) : zfy fuel := by
 intro x1 r F0
 unfold zbn at F0
 refine AC_i [.t (.sc (.int .i64 r))] Tryz.func178 rfl Tryz.ntmps178 ?_
 intro C hC
 refine zb (za ?_)
 refine s_as ?_
 refine zf (zd (zb (zb (za ?_))))
 refine s_mv ?_
 refine zE yU25 ?_
 refine s_mv ?_
 refine zf (zd (zk ?_))
 refine za1 (β := Int) [4, 5, 8, 9, 10, 11, 12, 13, 14, 15, 16, 17, 18] [] [] (fun a => [(8, .t (.sc (.int .i64 a.2)))]) (fun a => []) (fun a => a.1 ≤ fuel ∧ z9 a.1 x1 a.2 = some r ∧ 0 ≤ a.2) (fuel, 0) ⟨Nat.le_refl _, F0, by simp⟩ ?_
 clear F0
 rintro ⟨fu, g1⟩ ⟨hl2, F1, hn_g1⟩
 dsimp only at hl2 F1 hn_g1 ⊢
 obtain _ | fu := fu
 · rw [z9] at F1; cases F1
 rw [z9] at F1
 refine zb (za ?_)
 refine s_lt ?_
 refine zf (zd (zb ?_))
 refine zm F1 ?_ ?_ <;> intro C3 F2
 refine zT 0 (fun B4 => ?_)
 refine zi (zd (zb (zk (zb (za ?_)))))
 refine s_mv ?_
 refine s_as ?_
 refine zf (zd (zb (za ?_)))
 iterate 3 refine s_mv ?_
 obtain ⟨v5, V5, F3⟩ := zc F2
 refine zM Form.row V5 (Form.row_eq _) yE25 ?_
 refine zan yA27 yS27 ?_
 obtain ⟨v6, V6, F4⟩ := zc F3
 refine zv [] (m_impl_dotsAt_1_ok fu _ _ V6) ?_
 refine zf (zd ?_)
 refine zm F4 ?_ ?_ <;> intro C7 F5
 refine zb (za ?_)
 refine s_mv ?_
 refine s_as ?_
 refine zf (zd (zh (zj (zg (zx (zj (zg (zn ?_))))))))
 cases F5
 exact zl [] [] Tryz.results178
 refine zi (zX (zd (za ?_)))
 refine zN (zaz C3 B4 hn_g1) ?_
 refine s_mv ?_
 refine zf ?_
 exact s_rn (fu, (g1 + 1)) ⟨by first | omega | (dsimp only; omega), F5, by first | omega | (dsimp only; omega)⟩
 refine zz (zq (zp (zr (zd (zb (za ?_))))))
 refine s_as ?_
 refine zf (zd (zh (zn ?_)))
 cases F2
 exact zl [] [] Tryz.results178
def m_impl_dotsAt_AC (fuel : Nat) : Prop := ∀ (x1 : (List Form)) (r : Int), zgA fuel x1 = some r → AC Tryz.prog 124 [.t (.sl (x1.map Form.row))] noOb (.t (.sc (.int .i64 r))) noOb
theorem m_impl_dotsAt_ok (fuel : Nat) : m_impl_dotsAt_AC fuel := by
 intro x1 r F0
 unfold zgA at F0
 refine AC_i [.t (.sc (.int .i64 r))] Tryz.func124 rfl Tryz.ntmps124 ?_
 intro C hC
 refine zb (za ?_)
 refine s_as ?_
 refine zf (zd (zb (za ?_)))
 refine s_mv ?_
 obtain ⟨v1, V1, F1⟩ := zc F0
 refine zv [] (zfx fuel _ _ V1) ?_
 refine s_as ?_
 refine zf (zd (zh (zn ?_)))
 cases F1
 exact zl [] [] Tryz.results124
def zfv (fuel : Nat) : Prop := ∀ (x1 : Form) (x2 : Bool) (r : Bool), zdE fuel x1 x2 = some r → AC Tryz.prog 69 [.ag [.t (.sc (.int .i64 x1.kind)), .t (.sc (.str x1.name)), .t (.sc (.int .i64 x1.n)), .t (.sl (x1.scopes.map rI)), .t (.sl (x1.kids.map Form.row))], .t (.sc (.bool x2))] noOb (.t (.sc (.bool r))) noOb
theorem m_impl_dotsOk_st (fu : Nat) (ih_m_impl_dotsOk : ∀ k, k ≤ fu → zfv k) : zfv (fu + 1) := by
 intro x1 x2 r F0
 rw [zdE] at F0
 refine AC_i [.t (.sc (.bool r))] Tryz.func69 rfl Tryz.ntmps69 ?_
 intro C hC
 refine zb (za ?_)
 refine zbf ?_
 refine s_as ?_
 refine zf (zd (zb (zb (za ?_))))
 refine s_fa zH ?_
 refine zu yA25 ?_
 refine zE yU25 ?_
 refine s_mv ?_
 refine zf (zd (zk ?_))
 refine za1 (β := Int) [4, 5, 6, 10, 11, 12, 13, 14, 15, 16, 17, 18, 19, 20, 21, 22, 23, 24, 25, 26, 27, 28, 29, 30, 31, 32, 33, 34, 35, 36, 37, 38, 39, 40, 41, 42, 43] [] [6] (fun a => [(10, .t (.sc (.int .i64 a.2)))]) (fun a => []) (fun a => a.1 ≤ fu ∧ zbA a.1 x1 x2 a.2 = some r ∧ 0 ≤ a.2) (fu, 0) ⟨Nat.le_refl _, F0, by simp⟩ ?_
 clear F0
 rintro ⟨fu, g1⟩ ⟨hl2, F1, hn_g1⟩
 dsimp only at hl2 F1 hn_g1 ⊢
 obtain _ | fu := fu
 · rw [zbA] at F1; cases F1
 rw [zbA] at F1
 refine zb (za ?_)
 refine s_lt ?_
 refine zf (zd (zb ?_))
 refine zm F1 ?_ ?_ <;> intro C3 F2
 refine zT 8 (fun B4 => ?_)
 refine zi (zd (zb (zk (zb (za ?_)))))
 refine s_mv ?_
 obtain ⟨v5, V5, F3⟩ := zc F2
 refine zM Form.row V5 (Form.row_eq _) yE25 ?_
 refine zan yA27 yS27 ?_
 refine z6 yZ27 ?_
 refine s_as ?_
 refine zac yS27 ?_
 refine zf (zd (zb (za ?_)))
 refine zI yA27 yS27 ?_
 obtain ⟨v6, V6, F4⟩ := zc F3
 refine zv [] (zcK fu _ _ _ V6) ?_
 refine zf (zd ?_)
 refine zm F4 ?_ ?_ <;> intro C7 F5
 refine zb (za ?_)
 refine s_mv ?_
 refine s_eq ?_
 refine s_mv ?_
 refine zo _ 19 F5 ?_ ?_ <;> intro C8 F6
 iterate 7 refine r_no rfl ?_
 refine zA ?_
 refine s_mv ?_
 iterate 9 refine r_no rfl ?_
 refine zA ?_
 refine zf (zd (zO rfl (zb (za ?_))))
 refine s_as ?_
 refine zf (zd (zh (zj (zg (zx (zj (zg (zn ?_))))))))
 cases F6
 exact zl [] [] Tryz.results69
 refine s_fa zH ?_
 refine zu yA25 ?_
 refine s_mv ?_
 refine zg4 rfl ?_
 obtain ⟨v9, V9, F7⟩ := zc F6
 refine zM Form.row V9 (Form.row_eq _) yE25 ?_
 refine zan yA27 yS27 ?_
 obtain ⟨v10, V10, F8⟩ := zc F7
 refine zv [] (zcK fu _ _ _ V10) ?_
 refine zB ?_
 refine s_mv ?_
 refine zo _ 28 F8 ?_ ?_ <;> intro C11 F9
 iterate 9 refine r_no rfl ?_
 refine zA ?_
 refine zf (zd (zO rfl (zb (za ?_))))
 refine s_as ?_
 refine zf (zd (zh (zj (zg (zx (zj (zg (zn ?_))))))))
 cases F9
 exact zl [] [] Tryz.results69
 refine s_mv ?_
 refine s_mv ?_
 refine zo _ 30 F9 ?_ ?_ <;> intro C12 F10
 refine s_fa zH ?_
 refine zu yA25 ?_
 refine s_mv ?_
 obtain ⟨v13, V13, F11⟩ := zc F10
 refine s_sl01 Form.row (fun y => Form.row_len y) V13 yU25 yE25 ?_
 obtain ⟨v14, V14, F12⟩ := zc F11
 refine zv [] (m_impl_dotsAt_ok fu _ _ V14) ?_
 refine s_ge ?_
 refine zA ?_
 refine zB ?_
 refine zf (zd ?_)
 refine zm F12 ?_ ?_ <;> intro C15 F13
 refine zb (za ?_)
 refine s_as ?_
 refine zf (zd (zh (zj (zg (zx (zj (zg (zn ?_))))))))
 cases F13
 exact zl [] [] Tryz.results69
 refine zi (zX (zd (za ?_)))
 refine zN (zaz C3 B4 hn_g1) ?_
 refine s_mv ?_
 refine zf ?_
 exact s_rn (fu, (g1 + 1)) ⟨by first | omega | (dsimp only; omega), F13, by first | omega | (dsimp only; omega)⟩
 iterate 6 refine r_no rfl ?_
 refine zB ?_
 refine zB ?_
 refine zf (zd (zaM rfl (zi (zX (zd (za ?_))))))
 refine zN (zaz C3 B4 hn_g1) ?_
 refine s_mv ?_
 refine zf ?_
 exact s_rn (fu, (g1 + 1)) ⟨by first | omega | (dsimp only; omega), F10, by first | omega | (dsimp only; omega)⟩
 refine zb (za ?_)
 refine zI yA27 yS27 ?_
 refine s_mv ?_
 obtain ⟨v16, V16, F6⟩ := zc F5
 refine zv [] (ih_m_impl_dotsOk fu (by omega) _ _ _ V16) ?_
 refine zbB ?_
 refine zf (zd ?_)
 refine zm F6 ?_ ?_ <;> intro C17 F7
 refine zb (za ?_)
 refine s_as ?_
 refine zf (zd (zh (zj (zg (zx (zj (zg (zn ?_))))))))
 cases F7
 exact zl [] [] Tryz.results69
 refine zi (zX (zd (za ?_)))
 refine zN (zaz C3 B4 hn_g1) ?_
 refine s_mv ?_
 refine zf ?_
 exact s_rn (fu, (g1 + 1)) ⟨by first | omega | (dsimp only; omega), F7, by first | omega | (dsimp only; omega)⟩
 refine zz (zq (zp (zr (zd (zb (za ?_))))))
 refine s_as ?_
 refine zf (zd (zh (zn ?_)))
 cases F2
 exact zl [] [] Tryz.results69
theorem m_impl_dotsOk_all (fuel : Nat) : zfv fuel := by
 induction fuel using Nat.strongRecOn with
 | _ N ih =>
   cases N with
   | zero => exact (by intro x1 x2 r h; rw [zdE] at h; cases h)
   | succ fu => exact m_impl_dotsOk_st fu (fun k hk => (ih k (by omega)))
theorem m_impl_dotsOk_ok (fuel : Nat) : zfv fuel := (m_impl_dotsOk_all fuel)
def m_slices_Clone_int_AC (fuel : Nat) : Prop := ∀ (x1 : (List Int)) (r : (List Int)), zdz fuel x1 = some r → AC Tryz.prog 146 [.t (.sl (x1.map rI))] noOb (.t (.sl (r.map rI))) noOb
theorem m_slices_Clone_int_ok (fuel : Nat) : m_slices_Clone_int_AC fuel := by
 intro x1 r F0
 unfold zdz at F0
 refine AC_i [.t (.sl (r.map rI))] Tryz.func146 rfl Tryz.ntmps146 ?_
 intro C hC
 refine awp_nil 0 (fun hz => ?_) ?_
 replace hz := List.map_eq_nil_iff.mp hz; subst hz; obtain ⟨_, F1⟩ := zah F0
 refine zb (za ?_)
 refine s_as ?_
 refine zf (zd (zb (zb (za ?_))))
 refine s_mv ?_
 refine s_nil yU24 ?_
 refine zf (zd (zO rfl ?_))
 refine zgk 0 ?_
 refine zgk 3 ?_
 refine zb (za ?_)
 refine s_as ?_
 refine zf (zd (zh (zg (zn ?_))))
 cases F1
 exact zl [] [] Tryz.results146
 refine zb (za ?_)
 refine s_as ?_
 refine zf (zd (zb (zb (za ?_))))
 refine s_mv ?_
 refine s_nil yU24 ?_
 refine zf (zd (zaM rfl ?_))
 refine zgk 0 ?_
 refine zgk 3 ?_
 refine zi (zd (zb (za ?_)))
 refine s_bs rI ([] : List Int) yP24 yR3 ?_
 refine s_mv ?_
 obtain ⟨hk1, F1⟩ := zah F0
 refine zdX rI (fun _ => rfl) hk1 yP24 ?_
 refine s_as ?_
 refine zf (zd (zh (zn ?_)))
 cases F1
 exact zl [] [7] Tryz.results146
def zeE (fuel : Nat) : Prop := ∀ (x1 : Form) (r : Form), zbv fuel x1 = some r → AC Tryz.prog 82 [.ag [.t (.sc (.int .i64 x1.kind)), .t (.sc (.str x1.name)), .t (.sc (.int .i64 x1.n)), .t (.sl (x1.scopes.map rI)), .t (.sl (x1.kids.map Form.row))]] noOb (.ag [.t (.sc (.int .i64 r.kind)), .t (.sc (.str r.name)), .t (.sc (.int .i64 r.n)), .t (.sl (r.scopes.map rI)), .t (.sl (r.kids.map Form.row))]) noOb
theorem m_impl_copyForm_st (fu : Nat) (ih_m_impl_copyForm : ∀ k, k ≤ fu → zeE k) : zeE (fu + 1) := by
 intro x1 r F0
 rw [zbv] at F0
 refine AC_i [.ag [.t (.sc (.int .i64 r.kind)), .t (.sc (.str r.name)), .t (.sc (.int .i64 r.n)), .t (.sl (r.scopes.map rI)), .t (.sl (r.kids.map Form.row))]] Tryz.func82 rfl Tryz.ntmps82 ?_
 intro C hC
 refine zb (za ?_)
 refine zbf ?_
 refine z6 yZ27 ?_
 refine zf (zd (zb ?_))
 refine zW yMix (by kernel_rfl) ?_
 refine s_fa zc2 ?_
 refine zu yA3 ?_
 refine s_fa zdn ?_
 refine zu yA9 ?_
 refine s_fa zge ?_
 refine zu yA3 ?_
 refine s_fa ze5 ?_
 refine zu yA24 ?_
 obtain ⟨v1, V1, F1⟩ := zc F0
 refine zv [] (m_slices_Clone_int_ok fu _ _ V1) ?_
 refine zeH yZ27 yL27 ?_
 refine z6 yZ27 ?_
 refine zac yS27 ?_
 refine zak (by kernel_rfl) ?_
 refine zd (zb (zb (za ?_)))
 refine s_fa zH ?_
 refine zu yA25 ?_
 refine zE yU25 ?_
 refine s_mv ?_
 refine zf (zd (zk ?_))
 refine zgZ 3 5020 27 [.t (.sc (.int .i64 x1.kind)), .t (.sc (.str x1.name)), .t (.sc (.int .i64 x1.n)), .t (.sl (v1.map rI)), .ar 5020] yI27.choose_spec ?_
 refine zao [5, 19, 20, 21, 22, 23, 24, 25, 26, 27, 28, 29, 30] [3, 5020] [5, 27, 28] [5020] (fun a : Nat × Int × (List Form) => a.1) (fun a : Nat × Int × (List Form) => [(19, .t (.sc (.int .i64 a.2.1)))]) (fun a : Nat × Int × (List Form) => [(3, .box [.t (.sc (.int .i64 x1.kind)), .t (.sc (.str x1.name)), .t (.sc (.int .i64 x1.n)), .t (.sl (v1.map rI)), .ar 5020]), (5020, .arr (a.2.2.map Form.row) 27 true)]) (fun a : Nat × Int × (List Form) => a.1 ≤ fu ∧ zb6 a.1 x1 v1 a.2.1 a.2.2 = some r ∧ 0 ≤ a.2.1) (fu, 0, ([] : List Form)) ⟨Nat.le_refl _, F1, by simp⟩ (by rfl) (by rfl) (fun _ => rfl) (zG (by conv => lhs; whnf) (by rfl) za3) (zV (by conv => lhs; whnf) (by rfl) (zV (by conv => lhs; whnf) (by rfl) zaU)) (zb8 hC rfl) (by repeat (first | exact zag rfl | refine zau rfl ?_ | refine zZ rfl ?_)) (by repeat (first | exact zaI | exact zal rfl | refine zav rfl ?_ | refine z4 rfl ?_)) ?_
 clear F1
 rintro ⟨fu, g2, g3⟩ ⟨hl4, F2, hn_g2⟩
 dsimp only at hl4 F2 hn_g2 ⊢
 obtain _ | fu := fu
 · rw [zb6] at F2; cases F2
 rw [zb6] at F2
 refine zb (za ?_)
 refine s_lt ?_
 refine zf (zd (zb ?_))
 refine zm F2 ?_ ?_ <;> intro C5 F3
 refine zT 17 (fun B6 => ?_)
 refine zi (zd (zb (zk (zb (za ?_)))))
 obtain ⟨v7, V7, F4⟩ := zc F3
 refine zM Form.row V7 (Form.row_eq _) yE25 ?_
 refine zan yA27 yS27 ?_
 refine z6 yZ27 ?_
 refine zac yS27 ?_
 refine zf (zd ?_)
 refine zW yMix (by kernel_rfl) ?_
 refine s_fa zH ?_
 refine zu yA25 ?_
 refine zI yA27 yS27 ?_
 obtain ⟨v8, V8, F5⟩ := zc F4
 refine zv [] (ih_m_impl_copyForm fu (by omega) _ _ V8) ?_
 refine s_bs Form.row [v8] yP25 yR27 ?_
 obtain ⟨hk9, F6⟩ := zah F5
 refine zdX Form.row (fun y => Form.row_len y) hk9 yP25 ?_
 refine s_fa zH ?_
 refine zgK yS25 ?_
 refine zak (by kernel_rfl) ?_
 refine zX (zd (za ?_))
 refine zN (zaz C5 B6 hn_g2) ?_
 refine s_mv ?_
 refine zf ?_
 exact s_rn (fu, (g2 + 1), (g3 ++ [v8])) ⟨by first | omega | (dsimp only; omega), F6, by first | omega | (dsimp only; omega)⟩ [(5020, 28)]
 refine zz (zq (zp (zr (zd (zb (za ?_))))))
 refine zI yA27 yS27 ?_
 refine zac yS27 ?_
 refine zf (zd (zh (zn ?_)))
 cases F3
 exact zJ [] [5020] (by rw [Tryz.results82]; exact (z8 (by conv => lhs; whnf) (by conv => lhs; whnf) yA27 yS27 rfl zU))
theorem m_impl_copyForm_all (fuel : Nat) : zeE fuel := by
 induction fuel using Nat.strongRecOn with
 | _ N ih =>
   cases N with
   | zero => exact (by intro x1 r h; rw [zbv] at h; cases h)
   | succ fu => exact m_impl_copyForm_st fu (fun k hk => (ih k (by omega)))
theorem zfV (fuel : Nat) : zeE fuel := (m_impl_copyForm_all fuel)
def m_spec_l1Ints_AC (fuel : Nat) : Prop := ∀ (x1 : (List Int)) (x2 : (List Int)) (r : Bool), zeZ fuel x1 x2 = some r → AC Tryz.prog 127 [.t (.sl (x1.map rI)), .t (.sl (x2.map rI))] noOb (.t (.sc (.bool r))) noOb
theorem m_spec_l1Ints_ok (fuel : Nat) : m_spec_l1Ints_AC fuel := by
 intro x1 x2 r F0
 unfold zeZ at F0
 refine AC_i [.t (.sc (.bool r))] Tryz.func127 rfl Tryz.ntmps127 ?_
 intro C hC
 refine zb (za ?_)
 refine s_as ?_
 refine zf (zd (zb (zb (za ?_))))
 refine s_mv ?_
 refine zE yU24 ?_
 refine s_mv ?_
 refine zE yU24 ?_
 refine s_ne ?_
 refine zf (zd ?_)
 refine zm F0 ?_ ?_ <;> intro C1 F1
 refine zb (za ?_)
 refine s_as ?_
 refine zf (zd (zh (zg (zn ?_))))
 cases F1
 exact zl [] [] Tryz.results127
 refine zi (zd (zb (zb (za ?_))))
 refine s_as ?_
 refine zf (zd (zk ?_))
 refine za1 (β := Int) [4, 5, 11, 12, 13, 14, 15, 16, 17, 18, 19, 20, 21, 22, 23, 24, 25] [] [] (fun a => [(5, .t (.sc (.int .i64 a.2)))]) (fun a => []) (fun a => a.1 ≤ fuel ∧ zcU a.1 x1 x2 a.2 = some r ∧ 0 ≤ a.2) (fuel, 0) ⟨Nat.le_refl _, F1, by simp⟩ ?_
 clear F1
 rintro ⟨fu, g2⟩ ⟨hl3, F2, hn_g2⟩
 dsimp only at hl3 F2 hn_g2 ⊢
 obtain _ | fu := fu
 · rw [zcU] at F2; cases F2
 rw [zcU] at F2
 refine zb (zb (za ?_))
 refine s_mv ?_
 refine s_mv ?_
 refine zE yU24 ?_
 refine s_lt ?_
 refine zf (zd ?_)
 refine zm F2 ?_ ?_ <;> intro C4 F3
 refine zT 0 (fun B5 => ?_)
 refine zi (zd (zb (zk (zb ?_))))
 refine zW yMix (by kernel_rfl) ?_
 refine s_mv ?_
 refine s_mv ?_
 obtain ⟨v6, V6, F4⟩ := zc F3
 refine zM rI V6 rfl yE24 ?_
 refine zu yA3 ?_
 refine s_mv ?_
 refine s_mv ?_
 obtain ⟨v7, V7, F5⟩ := zc F4
 refine zM rI V7 rfl yE24 ?_
 refine zu yA3 ?_
 refine s_ne ?_
 refine zak (by kernel_rfl) ?_
 refine zd ?_
 refine zm F5 ?_ ?_ <;> intro C8 F6
 refine zb (za ?_)
 refine s_as ?_
 refine zf (zd (zh (zj (zg (zx (zj (zg (zn ?_))))))))
 cases F6
 exact zl [] [] Tryz.results127
 refine zi (zX (zd (za ?_)))
 refine s_mv ?_
 refine zN (zaz C4 B5 hn_g2) ?_
 refine s_as ?_
 refine zf ?_
 exact s_rn (fu, (g2 + 1)) ⟨by first | omega | (dsimp only; omega), F6, by first | omega | (dsimp only; omega)⟩
 refine zz (zq (zp (zr (zd (zb (za ?_))))))
 refine s_as ?_
 refine zf (zd (zh (zn ?_)))
 cases F3
 exact zl [] [] Tryz.results127
def m_spec_BindsValid_AC (fuel : Nat) : Prop := ∀ (x1 : (List Bind)) (r : Bool), zdc fuel x1 = some r → AC Tryz.prog 62 [.t (.sl (x1.map Bind.row))] noOb (.t (.sc (.bool r))) noOb
theorem zgt (fuel : Nat) : m_spec_BindsValid_AC fuel := by
 intro x1 r F0
 unfold zdc at F0
 refine AC_i [.t (.sc (.bool r))] Tryz.func62 rfl Tryz.ntmps62 ?_
 intro C hC
 refine zb (za ?_)
 refine s_as ?_
 refine zf (zd (zb (zb (za ?_))))
 refine s_as ?_
 refine zf (zd (zk ?_))
 refine za1 (β := Int) [2, 3, 4, 5, 6, 7, 8, 9, 10, 11, 12, 13, 14, 15, 16, 17, 18, 19, 20, 21, 22, 23, 24, 25, 26, 27, 28, 29, 30, 31, 32, 33, 34, 35, 36, 37, 38, 39, 40, 41, 42, 43, 44, 45, 46, 47, 48, 49, 50, 51, 52, 53, 54, 55, 56, 57, 58, 59, 60, 61, 62, 63, 64, 65, 66, 67, 68, 69, 70, 71, 72, 73, 74, 75] [] [] (fun a => [(2, .t (.sc (.bool false))), (3, .t (.sc (.int .i64 a.2)))]) (fun a => []) (fun a => a.1 ≤ fuel ∧ zba a.1 x1 a.2 = some r) (fuel, 0) ⟨Nat.le_refl _, F0⟩ ?_
 clear F0
 rintro ⟨fu, g1⟩ ⟨hl2, F1⟩
 dsimp only at hl2 F1 ⊢
 obtain _ | fu := fu
 · rw [zba] at F1; cases F1
 rw [zba] at F1
 refine zb ?_
 refine zbk (α := Nat × Bool) [5, 6, 7, 8, 9, 10, 11, 12] [] [] (fun a => [(12, .t (.sc (.bool a.2)))]) (fun a => []) (fun a => a.1 ≤ fu ∧ zbc a.1 x1 g1 a.2 = some r) ?_ ?_
 refine za ?_
 refine s_mv ?_
 refine s_mv ?_
 refine zE yU23 ?_
 refine s_lt ?_
 refine s_mv ?_
 refine zo _ 9 F1 ?_ ?_ <;> intro C3 F2
 refine s_mv ?_
 refine s_le ?_
 refine zA ?_
 refine zf ?_
 exact s_jn (fu, (decide (g1 ≤ 60))) ⟨by first | omega | (dsimp only; omega), F2⟩
 refine r_no rfl (r_no rfl ?_)
 refine zB ?_
 refine zf ?_
 exact s_jn (fu, false) ⟨by first | omega | (dsimp only; omega), F2⟩
 clear F1
 rintro ⟨fu, g4⟩ ⟨hl5, F2⟩
 dsimp only at hl5 F2 ⊢
 obtain _ | fu := fu
 · rw [zbc] at F2; cases F2
 rw [zbc] at F2
 refine zm F2 ?_ ?_ <;> intro C6 F3
 refine zi (zd (zb (zk (zb ?_))))
 refine zbk (α := Nat × Bool) [15, 16, 17, 18, 19, 20, 21, 22, 23, 24, 25, 26, 27, 28, 29, 30, 31, 32, 33, 34, 35, 36, 37, 38, 39, 40, 41, 42, 43, 44, 45, 46] [] [] (fun a => [(46, .t (.sc (.bool a.2)))]) (fun a => []) (fun a => a.1 ≤ fu ∧ zaE a.1 x1 g1 a.2 = some r) ?_ ?_
 refine za ?_
 refine s_mv ?_
 refine s_mv ?_
 obtain ⟨v7, V7, F4⟩ := zc F3
 refine zM Bind.row V7 (Bind.row_eq _) yE23 ?_
 refine s_fa yF93_0 ?_
 refine zu yA9 ?_
 obtain ⟨v8, V8, F5⟩ := zc F4
 refine zv [] (zgD fu _ _ V8) ?_
 refine zbB ?_
 refine s_mv ?_
 refine zo _ 22 F5 ?_ ?_ <;> intro C9 F6
 iterate 7 refine r_no rfl ?_
 refine zA ?_
 refine s_mv ?_
 iterate 6 refine r_no rfl ?_
 refine zA ?_
 refine s_mv ?_
 iterate 6 refine r_no rfl ?_
 refine zA ?_
 refine zf ?_
 exact s_jn (fu, true) ⟨by first | omega | (dsimp only; omega), F6⟩
 refine s_mv ?_
 refine s_mv ?_
 obtain ⟨v10, V10, F7⟩ := zc F6
 refine zM Bind.row V10 (Bind.row_eq _) yE23 ?_
 refine s_fa yF93_1 ?_
 refine zu yA24 ?_
 obtain ⟨v11, V11, F8⟩ := zc F7
 refine zv [] (zgT fu _ _ V11) ?_
 refine zbB ?_
 refine zB ?_
 refine s_mv ?_
 refine zo _ 31 F8 ?_ ?_ <;> intro C12 F9
 iterate 6 refine r_no rfl ?_
 refine zA ?_
 refine s_mv ?_
 iterate 6 refine r_no rfl ?_
 refine zA ?_
 refine zf ?_
 exact s_jn (fu, true) ⟨by first | omega | (dsimp only; omega), F9⟩
 refine s_mv ?_
 refine s_mv ?_
 obtain ⟨v13, V13, F10⟩ := zc F9
 refine zM Bind.row V13 (Bind.row_eq _) yE23 ?_
 refine s_fa yF93_2 ?_
 refine zu yA3 ?_
 refine s_lt ?_
 refine zB ?_
 refine s_mv ?_
 refine zo _ 39 F10 ?_ ?_ <;> intro C14 F11
 iterate 6 refine r_no rfl ?_
 refine zA ?_
 refine zf ?_
 exact s_jn (fu, true) ⟨by first | omega | (dsimp only; omega), F11⟩
 refine s_mv ?_
 refine s_mv ?_
 obtain ⟨v15, V15, F12⟩ := zc F11
 refine zM Bind.row V15 (Bind.row_eq _) yE23 ?_
 refine s_fa yF93_2 ?_
 refine zu yA3 ?_
 refine s_gt ?_
 refine zB ?_
 refine zf ?_
 exact s_jn (fu, (decide (999 < v15.id))) ⟨by first | omega | (dsimp only; omega), F12⟩
 clear F3
 rintro ⟨fu, g16⟩ ⟨hl17, F4⟩
 dsimp only at hl17 F4 ⊢
 obtain _ | fu := fu
 · rw [zaE] at F4; cases F4
 rw [zaE] at F4
 refine zm F4 ?_ ?_ <;> intro C18 F5
 refine zb (za ?_)
 refine s_as ?_
 refine zf (zd (zh (zg (zj (zg (zx (zj (zg (zn ?_)))))))))
 cases F5
 exact zl [] [] Tryz.results62
 refine zi (zd (zb (za ?_)))
 refine s_as ?_
 refine zf (zd (zk ?_))
 refine za1 (β := Int) [2, 4, 47, 48, 49, 50, 51, 52, 53, 54, 55, 56, 57, 58, 59, 60, 61, 62, 63, 64, 65, 66, 67, 68, 69, 70, 71, 72, 73, 74, 75] [] [] (fun a => [(2, .t (.sc (.bool false))), (4, .t (.sc (.int .i64 a.2)))]) (fun a => []) (fun a => a.1 ≤ fu ∧ za9 a.1 x1 g1 a.2 = some r) (fu, 0) ⟨Nat.le_refl _, F5⟩ ?_
 clear F5
 rintro ⟨fu, g19⟩ ⟨hl20, F6⟩
 dsimp only at hl20 F6 ⊢
 obtain _ | fu := fu
 · rw [za9] at F6; cases F6
 rw [za9] at F6
 refine zb (zb (za ?_))
 refine s_mv ?_
 refine s_mv ?_
 refine s_lt ?_
 refine zf (zd ?_)
 refine zm F6 ?_ ?_ <;> intro C21 F7
 refine zi (zd (zb (zk ?_)))
 refine zbk (α := Nat × Bool) [52, 53, 54, 55, 56, 57, 58, 59, 60, 61, 62, 63, 64, 65, 66, 67, 68, 69, 70, 71, 72, 73, 74, 75] [] [] (fun a => [(75, .t (.sc (.bool a.2)))]) (fun a => []) (fun a => a.1 ≤ fu ∧ zbb a.1 x1 g1 g19 a.2 = some r) ?_ ?_
 refine zW yMix (by kernel_rfl) ?_
 refine s_mv ?_
 refine s_mv ?_
 obtain ⟨v22, V22, F8⟩ := zc F7
 refine zM Bind.row V22 (Bind.row_eq _) yE23 ?_
 refine s_fa yF93_0 ?_
 refine zu yA9 ?_
 refine s_mv ?_
 refine s_mv ?_
 obtain ⟨v23, V23, F9⟩ := zc F8
 refine zM Bind.row V23 (Bind.row_eq _) yE23 ?_
 refine s_fa yF93_0 ?_
 refine zu yA9 ?_
 refine zg6 ?_
 refine s_mv ?_
 refine zo _ 63 F9 ?_ ?_ <;> intro C24 F10
 refine s_mv ?_
 refine s_mv ?_
 obtain ⟨v25, V25, F11⟩ := zc F10
 refine zM Bind.row V25 (Bind.row_eq _) yE23 ?_
 refine s_fa yF93_1 ?_
 refine zu yA24 ?_
 refine s_mv ?_
 refine s_mv ?_
 obtain ⟨v26, V26, F12⟩ := zc F11
 refine zM Bind.row V26 (Bind.row_eq _) yE23 ?_
 refine s_fa yF93_1 ?_
 refine zu yA24 ?_
 obtain ⟨v27, V27, F13⟩ := zc F12
 refine zv [] (m_spec_l1Ints_ok fu _ _ _ V27) ?_
 refine zA ?_
 refine zak (by kernel_rfl) ?_
 exact s_jn (fu, v27) ⟨by first | omega | (dsimp only; omega), F13⟩
 iterate 11 refine r_no rfl ?_
 refine zB ?_
 refine zak (by kernel_rfl) ?_
 exact s_jn (fu, false) ⟨by first | omega | (dsimp only; omega), F10⟩
 clear F7
 rintro ⟨fu, g28⟩ ⟨hl29, F8⟩
 dsimp only at hl29 F8 ⊢
 obtain _ | fu := fu
 · rw [zbb] at F8; cases F8
 rw [zbb] at F8
 refine zm F8 ?_ ?_ <;> intro C30 F9
 refine zb (za ?_)
 refine s_as ?_
 refine zf (zd (zh (zj (zg (zx (zj (zj (zg (zx (zj (zg (zn ?_))))))))))))
 cases F9
 exact zl [] [] Tryz.results62
 refine zi (zX (zd (za ?_)))
 refine s_mv ?_
 refine zN rfl ?_
 refine s_as ?_
 refine zf ?_
 exact s_rn (fu, (w64 (g19 + 1))) ⟨by first | omega | (dsimp only; omega), F9⟩
 refine zz (zq (zp (zr (zX (zd (za ?_))))))
 refine s_mv ?_
 refine zN rfl ?_
 refine s_as ?_
 refine zf ?_
 exact s_rn (fu, (w64 (g1 + 1))) ⟨by first | omega | (dsimp only; omega), F7⟩
 refine zz (zq (zp (zr (zd (zb (za ?_))))))
 refine s_mv ?_
 refine zE yU23 ?_
 refine s_le ?_
 refine s_as ?_
 refine zf (zd (zh (zn ?_)))
 cases F3
 exact zl [] [] Tryz.results62
def m_spec_l3Is_AC (fuel : Nat) : Prop := ∀ (x1 : Form) (r : Bool), zf7 fuel x1 = some r → AC Tryz.prog 181 [.ag [.t (.sc (.int .i64 x1.kind)), .t (.sc (.str x1.name)), .t (.sc (.int .i64 x1.n)), .t (.sl (x1.scopes.map rI)), .t (.sl (x1.kids.map Form.row))]] noOb (.t (.sc (.bool r))) noOb
theorem m_spec_l3Is_ok (fuel : Nat) : m_spec_l3Is_AC fuel := by
 intro x1 r F0
 unfold zf7 at F0
 refine AC_i [.t (.sc (.bool r))] Tryz.func181 rfl Tryz.ntmps181 ?_
 intro C hC
 refine zb (za ?_)
 refine zbf ?_
 refine s_as ?_
 refine zf (zd (zb (za ?_)))
 refine s_fa zc2 ?_
 refine zu yA3 ?_
 refine s_eq ?_
 refine s_mv ?_
 refine zo _ 6 F0 ?_ ?_ <;> intro C1 F1
 refine zI yA27 yS27 ?_
 obtain ⟨v2, V2, F2⟩ := zc F1
 refine zv [] (zaK fuel _ _ V2) ?_
 refine zA ?_
 refine s_as ?_
 refine zf (zd (zh (zn ?_)))
 cases F2
 exact zl [] [] Tryz.results181
 refine r_no rfl (r_no rfl ?_)
 refine zB ?_
 refine s_as ?_
 refine zf (zd (zh (zn ?_)))
 cases F1
 exact zl [] [] Tryz.results181
def zeC (fuel : Nat) : Prop := ∀ (x1 : Form) (x2 : Form) (r : Bool), zap fuel x1 x2 = some r → AC Tryz.prog 136 [.ag [.t (.sc (.int .i64 x1.kind)), .t (.sc (.str x1.name)), .t (.sc (.int .i64 x1.n)), .t (.sl (x1.scopes.map rI)), .t (.sl (x1.kids.map Form.row))], .ag [.t (.sc (.int .i64 x2.kind)), .t (.sc (.str x2.name)), .t (.sc (.int .i64 x2.n)), .t (.sl (x2.scopes.map rI)), .t (.sl (x2.kids.map Form.row))]] noOb (.t (.sc (.bool r))) noOb
theorem m_spec_FormSame_st (fu : Nat) (ih_m_spec_FormSame : ∀ k, k ≤ fu → zeC k) : zeC (fu + 1) := by
 intro x1 x2 r F0
 rw [zap] at F0
 refine AC_i [.t (.sc (.bool r))] Tryz.func136 rfl Tryz.ntmps136 ?_
 intro C hC
 refine zb (za ?_)
 refine zbf ?_
 refine zbf ?_
 refine s_as ?_
 refine zf (zd (zb (zb (za ?_))))
 refine s_fa zc2 ?_
 refine zu yA3 ?_
 refine s_fa zc2 ?_
 refine zu yA3 ?_
 refine s_ne ?_
 refine s_mv ?_
 refine zo _ 11 F0 ?_ ?_ <;> intro C1 F1
 iterate 5 refine r_no rfl ?_
 refine zA ?_
 refine s_mv ?_
 iterate 5 refine r_no rfl ?_
 refine zA ?_
 refine s_mv ?_
 iterate 6 refine r_no rfl ?_
 refine zA ?_
 refine s_mv ?_
 iterate 7 refine r_no rfl ?_
 refine zA ?_
 refine zf (zd (zO rfl (zb (za ?_))))
 refine s_as ?_
 refine zf (zd (zh (zg (zn ?_))))
 cases F1
 exact zl [] [] Tryz.results136
 refine s_fa zdn ?_
 refine zu yA9 ?_
 refine s_fa zdn ?_
 refine zu yA9 ?_
 refine s_neS ?_
 refine zB ?_
 refine s_mv ?_
 refine zo _ 18 F1 ?_ ?_ <;> intro C2 F2
 iterate 5 refine r_no rfl ?_
 refine zA ?_
 refine s_mv ?_
 iterate 6 refine r_no rfl ?_
 refine zA ?_
 refine s_mv ?_
 iterate 7 refine r_no rfl ?_
 refine zA ?_
 refine zf (zd (zO rfl (zb (za ?_))))
 refine s_as ?_
 refine zf (zd (zh (zg (zn ?_))))
 cases F2
 exact zl [] [] Tryz.results136
 refine s_fa zge ?_
 refine zu yA3 ?_
 refine s_fa zge ?_
 refine zu yA3 ?_
 refine s_ne ?_
 refine zB ?_
 refine s_mv ?_
 refine zo _ 25 F2 ?_ ?_ <;> intro C3 F3
 iterate 6 refine r_no rfl ?_
 refine zA ?_
 refine s_mv ?_
 iterate 7 refine r_no rfl ?_
 refine zA ?_
 refine zf (zd (zO rfl (zb (za ?_))))
 refine s_as ?_
 refine zf (zd (zh (zg (zn ?_))))
 cases F3
 exact zl [] [] Tryz.results136
 refine s_fa ze5 ?_
 refine zu yA24 ?_
 refine s_fa ze5 ?_
 refine zu yA24 ?_
 obtain ⟨v4, V4, F4⟩ := zc F3
 refine zv [] (m_spec_l1Ints_ok fu _ _ _ V4) ?_
 refine zbB ?_
 refine zB ?_
 refine s_mv ?_
 refine zo _ 33 F4 ?_ ?_ <;> intro C5 F5
 iterate 7 refine r_no rfl ?_
 refine zA ?_
 refine zf (zd (zO rfl (zb (za ?_))))
 refine s_as ?_
 refine zf (zd (zh (zg (zn ?_))))
 cases F5
 exact zl [] [] Tryz.results136
 refine s_fa zH ?_
 refine zu yA25 ?_
 refine zE yU25 ?_
 refine s_fa zH ?_
 refine zu yA25 ?_
 refine zE yU25 ?_
 refine s_ne ?_
 refine zB ?_
 refine zf (zd ?_)
 refine zm F5 ?_ ?_ <;> intro C6 F6
 refine zb (za ?_)
 refine s_as ?_
 refine zf (zd (zh (zg (zn ?_))))
 cases F6
 exact zl [] [] Tryz.results136
 refine zi (zd (zb (zb (za ?_))))
 refine s_as ?_
 refine zf (zd (zk ?_))
 refine za1 (β := Int) [4, 5, 42, 43, 44, 45, 46, 47, 48, 49, 50, 51, 52, 53, 54, 55, 56, 57, 58, 59, 60] [] [] (fun a => [(5, .t (.sc (.int .i64 a.2)))]) (fun a => []) (fun a => a.1 ≤ fu ∧ zb4 a.1 x1 x2 a.2 = some r ∧ 0 ≤ a.2) (fu, 0) ⟨Nat.le_refl _, F6, by simp⟩ ?_
 clear F6
 rintro ⟨fu, g7⟩ ⟨hl8, F7, hn_g7⟩
 dsimp only at hl8 F7 hn_g7 ⊢
 obtain _ | fu := fu
 · rw [zb4] at F7; cases F7
 rw [zb4] at F7
 refine zb (zb (za ?_))
 refine s_mv ?_
 refine s_fa zH ?_
 refine zu yA25 ?_
 refine zE yU25 ?_
 refine s_lt ?_
 refine zf (zd ?_)
 refine zm F7 ?_ ?_ <;> intro C9 F8
 refine zT 35 (fun B10 => ?_)
 refine zi (zd (zb (zk (zb ?_))))
 refine zW yMix (by kernel_rfl) ?_
 refine s_fa zH ?_
 refine zu yA25 ?_
 refine s_mv ?_
 obtain ⟨v11, V11, F9⟩ := zc F8
 refine zM Form.row V11 (Form.row_eq _) yE25 ?_
 refine zan yA27 yS27 ?_
 refine s_fa zH ?_
 refine zu yA25 ?_
 refine s_mv ?_
 obtain ⟨v12, V12, F10⟩ := zc F9
 refine zM Form.row V12 (Form.row_eq _) yE25 ?_
 refine zan yA27 yS27 ?_
 obtain ⟨v13, V13, F11⟩ := zc F10
 refine zv [] (ih_m_spec_FormSame fu (by omega) _ _ _ V13) ?_
 refine zbB ?_
 refine zak (by kernel_rfl) ?_
 refine zd ?_
 refine zm F11 ?_ ?_ <;> intro C14 F12
 refine zb (za ?_)
 refine s_as ?_
 refine zf (zd (zh (zj (zg (zx (zj (zg (zn ?_))))))))
 cases F12
 exact zl [] [] Tryz.results136
 refine zi (zX (zd (za ?_)))
 refine s_mv ?_
 refine zN (zaz C9 B10 hn_g7) ?_
 refine s_as ?_
 refine zf ?_
 exact s_rn (fu, (g7 + 1)) ⟨by first | omega | (dsimp only; omega), F12, by first | omega | (dsimp only; omega)⟩
 refine zz (zq (zp (zr (zd (zb (za ?_))))))
 refine s_as ?_
 refine zf (zd (zh (zn ?_)))
 cases F8
 exact zl [] [] Tryz.results136
end Go.Abs
