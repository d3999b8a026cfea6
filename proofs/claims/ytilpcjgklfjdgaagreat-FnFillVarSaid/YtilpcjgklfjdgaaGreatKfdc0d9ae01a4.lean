/- A part of the proof: what the functions that the law calls answer, as pure values. -/
import Derived.Test.YtilpcjgklfjdgaaGreatKc2e0a31646d6
import Derived.Test.YtilpcjgklfjdgaaGreatK1634ef1acfe6
import Derived.Test.YtilpcjgklfjdgaaGreatK9901edc955de
set_option linter.unusedSimpArgs false
set_option linter.unusedVariables false
set_option maxRecDepth 100000
set_option maxHeartbeats 4000000
namespace Go.Abs
open Go.Proofs
theorem m_impl_formOk_all (fuel : Nat) : zfo fuel := by
 induction fuel using Nat.strongRecOn with
 | _ N ih =>
   cases N with
   | zero => exact (by intro x1 x2 o1 r h; rw [zdZ] at h; cases h)
   | succ fu => exact m_impl_formOk_st fu (fun k hk => (ih k (by omega)))
theorem m_impl_formOk_ok (fuel : Nat) : zfo fuel := (m_impl_formOk_all fuel)
def m_impl_FormValid_AC (fuel : Nat) : Prop := ∀ (x1 : Form) (r : Bool), zcn fuel x1 = some r → AC Tryz.prog 57 [.ag [.t (.sc (.int .i64 x1.kind)), .t (.sc (.str x1.name)), .t (.sc (.int .i64 x1.n)), .t (.sl (x1.scopes.map rI)), .t (.sl (x1.kids.map Form.row))]] noOb (.t (.sc (.bool r))) noOb
theorem zd0 (fuel : Nat) : m_impl_FormValid_AC fuel := by
 intro x1 r F0
 unfold zcn at F0
 refine AC_i [.t (.sc (.bool r))] Tryz.func57 rfl Tryz.ntmps57 ?_
 intro C hC
 refine zb (za ?_)
 refine zbh ?_
 refine s_as ?_
 refine zf (zd (zb (za ?_)))
 refine z6 yZ3 ?_
 refine zac yS3 ?_
 refine zf (zd (zb (za ?_)))
 refine zK yA32 yS32 ?_
 obtain ⟨v1, V1, F1⟩ := zc F0
 refine zZ [(9000, 3)] [] _ _ (m_impl_formOk_ok fuel _ _ _ _ V1) ?_
 refine s_as ?_
 refine zf (zd (zh (zn ?_)))
 cases F1
 exact zl [] [] Tryz.results57
def m_impl_isName_AC (fuel : Nat) : Prop := ∀ (x1 : Form) (r : Bool), zfR fuel x1 = some r → AC Tryz.prog 100 [.ag [.t (.sc (.int .i64 x1.kind)), .t (.sc (.str x1.name)), .t (.sc (.int .i64 x1.n)), .t (.sl (x1.scopes.map rI)), .t (.sl (x1.kids.map Form.row))]] noOb (.t (.sc (.bool r))) noOb
theorem m_impl_isName_ok (fuel : Nat) : m_impl_isName_AC fuel := by
 intro x1 r F0
 unfold zfR at F0
 refine AC_i [.t (.sc (.bool r))] Tryz.func100 rfl Tryz.ntmps100 ?_
 intro C hC
 refine zb (za ?_)
 refine zbh ?_
 refine s_as ?_
 refine zf (zd (zb (za ?_)))
 refine s_fa zc2 ?_
 refine zu yA3 ?_
 refine s_eq ?_
 refine s_mv ?_
 refine zo _ 6 F0 ?_ ?_ <;> intro C1 F1
 refine zK yA32 yS32 ?_
 obtain ⟨v2, V2, F2⟩ := zc F1
 refine zv [] (zd0 fuel _ _ V2) ?_
 refine zA ?_
 refine s_as ?_
 refine zf (zd (zh (zn ?_)))
 cases F2
 exact zl [] [] Tryz.results100
 refine r_no rfl (r_no rfl ?_)
 refine zB ?_
 refine s_as ?_
 refine zf (zd (zh (zn ?_)))
 cases F1
 exact zl [] [] Tryz.results100
def m_slices_Equal_int_AC (fuel : Nat) : Prop := ∀ (x1 : (List Int)) (x2 : (List Int)) (r : Bool), zdy fuel x1 x2 = some r → AC Tryz.prog 38 [.t (.sl (x1.map rI)), .t (.sl (x2.map rI))] noOb (.t (.sc (.bool r))) noOb
theorem m_slices_Equal_int_ok (fuel : Nat) : m_slices_Equal_int_AC fuel := by
 intro x1 x2 r F0
 unfold zdy at F0
 refine AC_i [.t (.sc (.bool r))] Tryz.func38 rfl Tryz.ntmps38 ?_
 intro C hC
 refine zb (za ?_)
 refine s_as ?_
 refine zf (zd (zb (zb (za ?_))))
 refine s_mv ?_
 refine zE yU27 ?_
 refine s_mv ?_
 refine zE yU27 ?_
 refine s_ne ?_
 refine zf (zd ?_)
 refine zm F0 ?_ ?_ <;> intro C1 F1
 refine zb (za ?_)
 refine s_as ?_
 refine zf (zd (zh (zg (zn ?_))))
 cases F1
 exact zl [] [] Tryz.results38
 refine zi (zd (zb (zb (za ?_))))
 refine s_mv ?_
 refine zE yU27 ?_
 refine s_mv ?_
 refine zf (zd (zk ?_))
 refine za1 (β := Int) [4, 5, 13, 14, 15, 16, 17, 18, 19, 20, 21, 22, 23, 24, 25] [] [] (fun a => [(13, .t (.sc (.int .i64 a.2)))]) (fun a => []) (fun a => a.1 ≤ fuel ∧ zbp a.1 x1 x2 a.2 = some r ∧ 0 ≤ a.2) (fuel, 0) ⟨Nat.le_refl _, F1, by simp⟩ ?_
 clear F1
 rintro ⟨fu, g2⟩ ⟨hl3, F2, hn_g2⟩
 dsimp only at hl3 F2 hn_g2 ⊢
 obtain _ | fu := fu
 · rw [zbp] at F2; cases F2
 rw [zbp] at F2
 refine zb (za ?_)
 refine s_lt ?_
 refine zf (zd (zb ?_))
 refine zm F2 ?_ ?_ <;> intro C4 F3
 refine zV 0 (fun B5 => ?_)
 refine zi (zd (zb (zk (zb (za ?_)))))
 refine s_mv ?_
 refine s_as ?_
 refine zf (zd (zb ?_))
 refine zY yMix (by kernel_rfl) ?_
 refine s_mv ?_
 refine s_mv ?_
 obtain ⟨v6, V6, F4⟩ := zc F3
 refine zN rI V6 rfl yE27 ?_
 refine zu yA3 ?_
 refine s_mv ?_
 refine s_mv ?_
 obtain ⟨v7, V7, F5⟩ := zc F4
 refine zN rI V7 rfl yE27 ?_
 refine zu yA3 ?_
 refine s_ne ?_
 refine zal (by kernel_rfl) ?_
 refine zd ?_
 refine zm F5 ?_ ?_ <;> intro C8 F6
 refine zb (za ?_)
 refine s_as ?_
 refine zf (zd (zh (zj (zg (zx (zj (zg (zn ?_))))))))
 cases F6
 exact zl [] [] Tryz.results38
 refine zi (z5 (zd (za ?_)))
 refine zO (zaA C4 B5 hn_g2) ?_
 refine s_mv ?_
 refine zf ?_
 exact s_rn (fu, (g2 + 1)) ⟨by first | omega | (dsimp only; omega), F6, by first | omega | (dsimp only; omega)⟩
 refine zz (zq (zp (zr (zd (zb (za ?_))))))
 refine s_as ?_
 refine zf (zd (zh (zn ?_)))
 cases F3
 exact zl [] [] Tryz.results38
def zdD (fuel : Nat) : Prop := ∀ (x1 : Form) (x2 : Form) (r : Bool), zav fuel x1 x2 = some r → AC Tryz.prog 15 [.ag [.t (.sc (.int .i64 x1.kind)), .t (.sc (.str x1.name)), .t (.sc (.int .i64 x1.n)), .t (.sl (x1.scopes.map rI)), .t (.sl (x1.kids.map Form.row))], .ag [.t (.sc (.int .i64 x2.kind)), .t (.sc (.str x2.name)), .t (.sc (.int .i64 x2.n)), .t (.sl (x2.scopes.map rI)), .t (.sl (x2.kids.map Form.row))]] noOb (.t (.sc (.bool r))) noOb
def zaY (fuel : Nat) : Prop := ∀ (x1 : (List Form)) (x2 : (List Form)) (r : Bool), zaK fuel x1 x2 = some r → AC Tryz.prog 39 [.t (.sl (x1.map Form.row)), .t (.sl (x2.map Form.row)), .fn 15 []] noOb (.t (.sc (.bool r))) noOb
theorem m_impl_FormSame_st (fu : Nat) (ih_m_impl_FormSame : ∀ k, k ≤ fu → zdD k) (ih_m_slices_EqualFunc_Form_FormSame : ∀ k, k ≤ fu → zaY k) : zdD (fu + 1) := by
 intro x1 x2 r F0
 rw [zav] at F0
 refine AC_i [.t (.sc (.bool r))] Tryz.func15 rfl Tryz.ntmps15 ?_
 intro C hC
 refine zb (za ?_)
 refine zbh ?_
 refine zbh ?_
 refine s_as ?_
 refine zf (zd (zb (za ?_)))
 refine s_fa zc2 ?_
 refine zu yA3 ?_
 refine s_fa zc2 ?_
 refine zu yA3 ?_
 refine s_eq ?_
 refine s_mv ?_
 refine zo _ 10 F0 ?_ ?_ <;> intro C1 F1
 refine s_fa zdm ?_
 refine zu yA9 ?_
 refine s_fa zdm ?_
 refine zu yA9 ?_
 refine zg3 ?_
 refine zA ?_
 refine s_mv ?_
 refine zo _ 17 F1 ?_ ?_ <;> intro C2 F2
 refine s_fa zf9 ?_
 refine zu yA3 ?_
 refine s_fa zf9 ?_
 refine zu yA3 ?_
 refine s_eq ?_
 refine zA ?_
 refine s_mv ?_
 refine zo _ 24 F2 ?_ ?_ <;> intro C3 F3
 refine s_fa zeY ?_
 refine zu yA27 ?_
 refine s_fa zeY ?_
 refine zu yA27 ?_
 obtain ⟨v4, V4, F4⟩ := zc F3
 refine zv [] (m_slices_Equal_int_ok fu _ _ _ V4) ?_
 refine zA ?_
 refine s_mv ?_
 refine zo _ 31 F4 ?_ ?_ <;> intro C5 F5
 refine s_fa zH ?_
 refine zu yA24 ?_
 refine s_fa zH ?_
 refine zu yA24 ?_
 obtain ⟨v6, V6, F6⟩ := zc F5
 refine zv [] (ih_m_slices_EqualFunc_Form_FormSame fu (by omega) _ _ _ V6) ?_
 refine zA ?_
 refine s_as ?_
 refine zf (zd (zh (zn ?_)))
 cases F6
 exact zl [] [] Tryz.results15
 iterate 5 refine r_no rfl ?_
 refine zB ?_
 refine s_as ?_
 refine zf (zd (zh (zn ?_)))
 cases F5
 exact zl [] [] Tryz.results15
 iterate 5 refine r_no rfl ?_
 refine zB ?_
 refine s_mv ?_
 iterate 5 refine r_no rfl ?_
 refine zB ?_
 refine s_as ?_
 refine zf (zd (zh (zn ?_)))
 cases F3
 exact zl [] [] Tryz.results15
 iterate 5 refine r_no rfl ?_
 refine zB ?_
 refine s_mv ?_
 iterate 5 refine r_no rfl ?_
 refine zB ?_
 refine s_mv ?_
 iterate 5 refine r_no rfl ?_
 refine zB ?_
 refine s_as ?_
 refine zf (zd (zh (zn ?_)))
 cases F2
 exact zl [] [] Tryz.results15
 iterate 5 refine r_no rfl ?_
 refine zB ?_
 refine s_mv ?_
 iterate 5 refine r_no rfl ?_
 refine zB ?_
 refine s_mv ?_
 iterate 5 refine r_no rfl ?_
 refine zB ?_
 refine s_mv ?_
 iterate 5 refine r_no rfl ?_
 refine zB ?_
 refine s_as ?_
 refine zf (zd (zh (zn ?_)))
 cases F1
 exact zl [] [] Tryz.results15
theorem zfv (fu : Nat) (ih_m_impl_FormSame : ∀ k, k ≤ fu → zdD k) (ih_m_slices_EqualFunc_Form_FormSame : ∀ k, k ≤ fu → zaY k) : zaY (fu + 1) := by
 intro x1 x2 r F0
 rw [zaK] at F0
 refine AC_i [.t (.sc (.bool r))] Tryz.func39 rfl Tryz.ntmps39 ?_
 intro C hC
 refine zb (za ?_)
 refine s_as ?_
 refine zf (zd (zb (zb (za ?_))))
 refine s_mv ?_
 refine zE yU24 ?_
 refine s_mv ?_
 refine zE yU24 ?_
 refine s_ne ?_
 refine zf (zd ?_)
 refine zm F0 ?_ ?_ <;> intro C1 F1
 refine zb (za ?_)
 refine s_as ?_
 refine zf (zd (zh (zg (zn ?_))))
 cases F1
 exact zl [] [] Tryz.results39
 refine zi (zd (zb (zb (za ?_))))
 refine s_mv ?_
 refine zE yU24 ?_
 refine s_mv ?_
 refine zf (zd (zk ?_))
 refine za1 (β := Int) [6, 7, 8, 9, 17, 18, 19, 20, 21, 22, 23, 24, 25, 26, 27, 28, 29, 30, 31] [] [8, 9] (fun a => [(17, .t (.sc (.int .i64 a.2)))]) (fun a => []) (fun a => a.1 ≤ fu ∧ zaa a.1 x1 x2 a.2 = some r ∧ 0 ≤ a.2) (fu, 0) ⟨Nat.le_refl _, F1, by simp⟩ ?_
 clear F1
 rintro ⟨fu, g2⟩ ⟨hl3, F2, hn_g2⟩
 dsimp only at hl3 F2 hn_g2 ⊢
 obtain _ | fu := fu
 · rw [zaa] at F2; cases F2
 rw [zaa] at F2
 refine zb (za ?_)
 refine s_lt ?_
 refine zf (zd (zb ?_))
 refine zm F2 ?_ ?_ <;> intro C4 F3
 refine zV 0 (fun B5 => ?_)
 refine zi (zd (zb (zk (zb (za ?_)))))
 refine s_mv ?_
 obtain ⟨v6, V6, F4⟩ := zc F3
 refine zN Form.row V6 (Form.row_eq _) yE24 ?_
 refine zaq yA32 yS32 ?_
 refine z6 yZ32 ?_
 refine s_as ?_
 refine zac yS32 ?_
 refine zf (zd (zb (za ?_)))
 refine s_mv ?_
 refine s_mv ?_
 obtain ⟨v7, V7, F5⟩ := zc F4
 refine zN Form.row V7 (Form.row_eq _) yE24 ?_
 refine zaq yA32 yS32 ?_
 refine z6 yZ32 ?_
 refine zac yS32 ?_
 refine zf (zd (zb (za ?_)))
 refine s_mv ?_
 refine zK yA32 yS32 ?_
 refine zK yA32 yS32 ?_
 obtain ⟨v8, V8, F6⟩ := zc F5
 refine zv [] (ih_m_impl_FormSame fu (by omega) _ _ _ V8) ?_
 refine zby ?_
 refine zf (zd ?_)
 refine zm F6 ?_ ?_ <;> intro C9 F7
 refine zb (za ?_)
 refine s_as ?_
 refine zf (zd (zh (zj (zg (zx (zj (zg (zn ?_))))))))
 cases F7
 exact zl [] [] Tryz.results39
 refine zi (z5 (zd (za ?_)))
 refine zO (zaA C4 B5 hn_g2) ?_
 refine s_mv ?_
 refine zf ?_
 exact s_rn (fu, (g2 + 1)) ⟨by first | omega | (dsimp only; omega), F7, by first | omega | (dsimp only; omega)⟩
 refine zz (zq (zp (zr (zd (zb (za ?_))))))
 refine s_as ?_
 refine zf (zd (zh (zn ?_)))
 cases F3
 exact zl [] [] Tryz.results39
theorem m_impl_FormSame_all (fuel : Nat) : zdD fuel ∧ zaY fuel := by
 induction fuel using Nat.strongRecOn with
 | _ N ih =>
   cases N with
   | zero => exact ⟨(by intro x1 x2 r h; rw [zav] at h; cases h), (by intro x1 x2 r h; rw [zaK] at h; cases h)⟩
   | succ fu => exact ⟨m_impl_FormSame_st fu (fun k hk => (ih k (by omega)).1) (fun k hk => (ih k (by omega)).2), zfv fu (fun k hk => (ih k (by omega)).1) (fun k hk => (ih k (by omega)).2)⟩
theorem zbE (fuel : Nat) : zdD fuel := (m_impl_FormSame_all fuel).1
def zdi (fuel : Nat) : Prop := ∀ (x1 : Hit) (r : Bool), zdS fuel x1 = some r → AC Tryz.prog 48 [.ag [.t (.sc (.int .i64 x1.name.kind)), .t (.sc (.str x1.name.name)), .t (.sc (.int .i64 x1.name.n)), .t (.sl (x1.name.scopes.map rI)), .t (.sl (x1.name.kids.map Form.row)), .t (.sc (.int .i64 x1.depth)), .t (.sc (.int .i64 x1.one.kind)), .t (.sc (.str x1.one.name)), .t (.sc (.int .i64 x1.one.n)), .t (.sl (x1.one.scopes.map rI)), .t (.sl (x1.one.kids.map Form.row)), .t (.sl (x1.many.map Hit.row))]] noOb (.t (.sc (.bool r))) noOb
def zdd (fuel : Nat) : Prop := ∀ (x1 : Hit) (o1 : Hit) (r : Bool), zdG fuel x1 o1 = some r → AC Tryz.prog 103 [.ag [.t (.sc (.int .i64 x1.name.kind)), .t (.sc (.str x1.name.name)), .t (.sc (.int .i64 x1.name.n)), .t (.sl (x1.name.scopes.map rI)), .t (.sl (x1.name.kids.map Form.row)), .t (.sc (.int .i64 x1.depth)), .t (.sc (.int .i64 x1.one.kind)), .t (.sc (.str x1.one.name)), .t (.sc (.int .i64 x1.one.n)), .t (.sl (x1.one.scopes.map rI)), .t (.sl (x1.one.kids.map Form.row)), .t (.sl (x1.many.map Hit.row))], .rf 9000 0] (objs [(9000, .box [.t (.sc (.int .i64 o1.name.kind)), .t (.sc (.str o1.name.name)), .t (.sc (.int .i64 o1.name.n)), .t (.sl (o1.name.scopes.map rI)), .t (.sl (o1.name.kids.map Form.row)), .t (.sc (.int .i64 o1.depth)), .t (.sc (.int .i64 o1.one.kind)), .t (.sc (.str o1.one.name)), .t (.sc (.int .i64 o1.one.n)), .t (.sl (o1.one.scopes.map rI)), .t (.sl (o1.one.kids.map Form.row)), .t (.sl (o1.many.map Hit.row))])]) (.t (.sc (.bool r))) (objs [(9000, .box [.t (.sc (.int .i64 o1.name.kind)), .t (.sc (.str o1.name.name)), .t (.sc (.int .i64 o1.name.n)), .t (.sl (o1.name.scopes.map rI)), .t (.sl (o1.name.kids.map Form.row)), .t (.sc (.int .i64 o1.depth)), .t (.sc (.int .i64 o1.one.kind)), .t (.sc (.str o1.one.name)), .t (.sc (.int .i64 o1.one.n)), .t (.sl (o1.one.scopes.map rI)), .t (.sl (o1.one.kids.map Form.row)), .t (.sl (o1.many.map Hit.row))])])
def zaj (fuel : Nat) : Prop := ∀ (x1 : (List Hit)) (o1 : Hit) (r : Bool), zaG fuel x1 o1 = some r → AC Tryz.prog 102 [.t (.sl (x1.map Hit.row)), .fn 103 [.rf 9000 0]] (objs [(9000, .box [.t (.sc (.int .i64 o1.name.kind)), .t (.sc (.str o1.name.name)), .t (.sc (.int .i64 o1.name.n)), .t (.sl (o1.name.scopes.map rI)), .t (.sl (o1.name.kids.map Form.row)), .t (.sc (.int .i64 o1.depth)), .t (.sc (.int .i64 o1.one.kind)), .t (.sc (.str o1.one.name)), .t (.sc (.int .i64 o1.one.n)), .t (.sl (o1.one.scopes.map rI)), .t (.sl (o1.one.kids.map Form.row)), .t (.sl (o1.many.map Hit.row))])]) (.t (.sc (.bool r))) (objs [(9000, .box [.t (.sc (.int .i64 o1.name.kind)), .t (.sc (.str o1.name.name)), .t (.sc (.int .i64 o1.name.n)), .t (.sl (o1.name.scopes.map rI)), .t (.sl (o1.name.kids.map Form.row)), .t (.sc (.int .i64 o1.depth)), .t (.sc (.int .i64 o1.one.kind)), .t (.sc (.str o1.one.name)), .t (.sc (.int .i64 o1.one.n)), .t (.sl (o1.one.scopes.map rI)), .t (.sl (o1.one.kids.map Form.row)), .t (.sl (o1.many.map Hit.row))])])
def zat (fuel : Nat) : Prop := ∀ (x1 : (List Hit)) (o1 : Hit) (r : Int), zaT fuel x1 o1 = some r → AC Tryz.prog 104 [.t (.sl (x1.map Hit.row)), .fn 103 [.rf 9000 0]] (objs [(9000, .box [.t (.sc (.int .i64 o1.name.kind)), .t (.sc (.str o1.name.name)), .t (.sc (.int .i64 o1.name.n)), .t (.sl (o1.name.scopes.map rI)), .t (.sl (o1.name.kids.map Form.row)), .t (.sc (.int .i64 o1.depth)), .t (.sc (.int .i64 o1.one.kind)), .t (.sc (.str o1.one.name)), .t (.sc (.int .i64 o1.one.n)), .t (.sl (o1.one.scopes.map rI)), .t (.sl (o1.one.kids.map Form.row)), .t (.sl (o1.many.map Hit.row))])]) (.t (.sc (.int .i64 r))) (objs [(9000, .box [.t (.sc (.int .i64 o1.name.kind)), .t (.sc (.str o1.name.name)), .t (.sc (.int .i64 o1.name.n)), .t (.sl (o1.name.scopes.map rI)), .t (.sl (o1.name.kids.map Form.row)), .t (.sc (.int .i64 o1.depth)), .t (.sc (.int .i64 o1.one.kind)), .t (.sc (.str o1.one.name)), .t (.sc (.int .i64 o1.one.n)), .t (.sl (o1.one.scopes.map rI)), .t (.sl (o1.one.kids.map Form.row)), .t (.sl (o1.many.map Hit.row))])])
theorem m_impl_hitOk_st (fu : Nat) (ih_m_impl_hitOk : ∀ k, k ≤ fu → zdi k) (ih_m_impl_hitOk_1 : ∀ k, k ≤ fu → zdd k) (ih_m_slices_ContainsFunc_Hit_hitOk_1 : ∀ k, k ≤ fu → zaj k) (ih_m_slices_IndexFunc_Hit_hitOk_1 : ∀ k, k ≤ fu → zat k) : zdi (fu + 1) := by
 intro x1 r F0
 rw [zdS] at F0
 refine AC_i [.t (.sc (.bool r))] Tryz.func48 rfl Tryz.ntmps48 ?_
 intro C hC
 refine zb (za ?_)
 refine zbh ?_
 refine s_as ?_
 refine zf (zd (zb (zb (za ?_))))
 refine s_fa zeX ?_
 refine zaq yA32 yS32 ?_
 obtain ⟨v1, V1, F1⟩ := zc F0
 refine zv [] (m_impl_isName_ok fu _ _ V1) ?_
 refine zby ?_
 refine s_mv ?_
 refine zo _ 7 F1 ?_ ?_ <;> intro C2 F2
 iterate 4 refine r_no rfl ?_
 refine zA ?_
 refine s_mv ?_
 iterate 4 refine r_no rfl ?_
 refine zA ?_
 refine s_mv ?_
 iterate 4 refine r_no rfl ?_
 refine zA ?_
 refine zf (zd (zM rfl (zb (za ?_))))
 refine s_as ?_
 refine zf (zd (zh (zg (zn ?_))))
 cases F2
 exact zl [] [] Tryz.results48
 refine s_fa zeX ?_
 refine s_fa zdm ?_
 refine zu yA9 ?_
 refine zg3 ?_
 refine zB ?_
 refine s_mv ?_
 refine zo _ 13 F2 ?_ ?_ <;> intro C3 F3
 iterate 4 refine r_no rfl ?_
 refine zA ?_
 refine s_mv ?_
 iterate 4 refine r_no rfl ?_
 refine zA ?_
 refine zf (zd (zM rfl (zb (za ?_))))
 refine s_as ?_
 refine zf (zd (zh (zg (zn ?_))))
 cases F3
 exact zl [] [] Tryz.results48
 refine s_fa zeX ?_
 refine s_fa zdm ?_
 refine zu yA9 ?_
 refine zg3 ?_
 refine zB ?_
 refine s_mv ?_
 refine zo _ 19 F3 ?_ ?_ <;> intro C4 F4
 iterate 4 refine r_no rfl ?_
 refine zA ?_
 refine zf (zd (zM rfl (zb (za ?_))))
 refine s_as ?_
 refine zf (zd (zh (zg (zn ?_))))
 cases F4
 exact zl [] [] Tryz.results48
 refine s_fa zfD ?_
 refine zu yA3 ?_
 obtain ⟨v5, V5, F5⟩ := zc F4
 refine zv [] (zfm fu _ _ _ _ V5) ?_
 refine zby ?_
 refine zB ?_
 refine zf (zd ?_)
 refine zm F5 ?_ ?_ <;> intro C6 F6
 refine zb (za ?_)
 refine s_as ?_
 refine zf (zd (zh (zg (zn ?_))))
 cases F6
 exact zl [] [] Tryz.results48
 refine zi (zd (zb (zb (za ?_))))
 refine s_fa zfD ?_
 refine zu yA3 ?_
 refine s_eq ?_
 refine zf (zd ?_)
 refine zm F6 ?_ ?_ <;> intro C7 F7
 refine zb (za ?_)
 refine s_fa yF48_2 ?_
 refine zaq yA32 yS32 ?_
 obtain ⟨v8, V8, F8⟩ := zc F7
 refine zv [] (zd0 fu _ _ V8) ?_
 refine s_mv ?_
 refine zo _ 31 F8 ?_ ?_ <;> intro C9 F9
 refine s_fa zfx ?_
 refine zu yA42 ?_
 refine zE yU42 ?_
 refine s_eq ?_
 refine zA ?_
 refine s_as ?_
 refine zf (zd (zh (zg (zn ?_))))
 cases F9
 exact zl [] [] Tryz.results48
 iterate 4 refine r_no rfl ?_
 refine zB ?_
 refine s_as ?_
 refine zf (zd (zh (zg (zn ?_))))
 cases F9
 exact zl [] [] Tryz.results48
 refine zi (zd (zb (za ?_)))
 refine s_fa yF48_2 ?_
 refine zaq yA32 yS32 ?_
 refine zeC yZ32 yL32 ?_
 obtain ⟨v10, V10, F8⟩ := zc F7
 refine zv [] (zbE fu _ _ _ V10) ?_
 refine s_mv ?_
 refine zo _ 41 F8 ?_ ?_ <;> intro C11 F9
 refine s_fa zfx ?_
 refine zu yA42 ?_
 refine zE yU42 ?_
 refine s_le ?_
 refine zA ?_
 refine s_mv ?_
 refine zo _ 47 F9 ?_ ?_ <;> intro C12 F10
 refine s_fa zfx ?_
 refine zu yA42 ?_
 refine s_fn ?_
 obtain ⟨v13, V13, F11⟩ := zc F10
 refine zZ [(9000, 1)] [] _ _ (ih_m_slices_ContainsFunc_Hit_hitOk_1 fu (by omega) _ _ _ V13) ?_
 refine zby ?_
 refine zA ?_
 refine s_as ?_
 refine zf (zd (zh (zn ?_)))
 cases F11
 exact zl [] [] Tryz.results48
 iterate 5 refine r_no rfl ?_
 refine zB ?_
 refine s_as ?_
 refine zf (zd (zh (zn ?_)))
 cases F10
 exact zl [] [] Tryz.results48
 iterate 4 refine r_no rfl ?_
 refine zB ?_
 refine s_mv ?_
 iterate 5 refine r_no rfl ?_
 refine zB ?_
 refine s_as ?_
 refine zf (zd (zh (zn ?_)))
 cases F9
 exact zl [] [] Tryz.results48
theorem m_impl_hitOk_1_st (fu : Nat) (ih_m_impl_hitOk : ∀ k, k ≤ fu → zdi k) (ih_m_impl_hitOk_1 : ∀ k, k ≤ fu → zdd k) (ih_m_slices_ContainsFunc_Hit_hitOk_1 : ∀ k, k ≤ fu → zaj k) (ih_m_slices_IndexFunc_Hit_hitOk_1 : ∀ k, k ≤ fu → zat k) : zdd (fu + 1) := by
 intro x1 o1 r F0
 rw [zdG] at F0
 refine AC_i [.t (.sc (.bool r))] Tryz.func103 rfl Tryz.ntmps103 ?_
 intro C hC
 refine zb (za ?_)
 refine zbh ?_
 refine s_as ?_
 refine zf (zd (zb (za ?_)))
 refine s_fa zeX ?_
 refine zaq yA32 yS32 ?_
 refine s_fa zeX ?_
 refine zaq yA32 yS32 ?_
 obtain ⟨v1, V1, F1⟩ := zc F0
 refine zv [] (zbE fu _ _ _ V1) ?_
 refine zby ?_
 refine s_mv ?_
 refine zo _ 10 F1 ?_ ?_ <;> intro C2 F2
 iterate 6 refine r_no rfl ?_
 refine zA ?_
 refine s_mv ?_
 iterate 3 refine r_no rfl ?_
 refine zA ?_
 refine s_as ?_
 refine zf (zd (zh (zn ?_)))
 cases F2
 exact zl _ [] Tryz.results103
 refine s_fa zfD ?_
 refine zu yA3 ?_
 refine s_fa zfD ?_
 refine zu yA3 ?_
 refine zg1 rfl ?_
 refine s_ne ?_
 refine zB ?_
 refine s_mv ?_
 refine zo _ 18 F2 ?_ ?_ <;> intro C3 F3
 iterate 3 refine r_no rfl ?_
 refine zA ?_
 refine s_as ?_
 refine zf (zd (zh (zn ?_)))
 cases F3
 exact zl _ [] Tryz.results103
 refine zK yA48 yS48 ?_
 obtain ⟨v4, V4, F4⟩ := zc F3
 refine zv [] (ih_m_impl_hitOk fu (by omega) _ _ V4) ?_
 refine zby ?_
 refine zB ?_
 refine s_as ?_
 refine zf (zd (zh (zn ?_)))
 cases F4
 exact zl _ [] Tryz.results103
theorem ze5 (fu : Nat) (ih_m_impl_hitOk : ∀ k, k ≤ fu → zdi k) (ih_m_impl_hitOk_1 : ∀ k, k ≤ fu → zdd k) (ih_m_slices_ContainsFunc_Hit_hitOk_1 : ∀ k, k ≤ fu → zaj k) (ih_m_slices_IndexFunc_Hit_hitOk_1 : ∀ k, k ≤ fu → zat k) : zaj (fu + 1) := by
 intro x1 o1 r F0
 rw [zaG] at F0
 refine AC_i [.t (.sc (.bool r))] Tryz.func102 rfl Tryz.ntmps102 ?_
 intro C hC
 refine zb (za ?_)
 refine s_as ?_
 refine zf (zd (zb (za ?_)))
 refine s_mv ?_
 refine s_mv ?_
 obtain ⟨v1, V1, F1⟩ := zc F0
 refine zZ [(9000, 9000)] [] _ _ (ih_m_slices_IndexFunc_Hit_hitOk_1 fu (by omega) _ _ _ V1) ?_
 refine s_ge ?_
 refine s_as ?_
 refine zf (zd (zh (zn ?_)))
 cases F1
 exact zl _ [] Tryz.results102
theorem zfN (fu : Nat) (ih_m_impl_hitOk : ∀ k, k ≤ fu → zdi k) (ih_m_impl_hitOk_1 : ∀ k, k ≤ fu → zdd k) (ih_m_slices_ContainsFunc_Hit_hitOk_1 : ∀ k, k ≤ fu → zaj k) (ih_m_slices_IndexFunc_Hit_hitOk_1 : ∀ k, k ≤ fu → zat k) : zat (fu + 1) := by
 intro x1 o1 r F0
 rw [zaT] at F0
 refine AC_i [.t (.sc (.int .i64 r))] Tryz.func104 rfl Tryz.ntmps104 ?_
 intro C hC
 refine zb (za ?_)
 refine s_as ?_
 refine zf (zd (zb (zb (za ?_))))
 refine s_mv ?_
 refine zE yU42 ?_
 refine s_mv ?_
 refine zf (zd (zk ?_))
 refine za1 (β := Int) [4, 5, 8, 9, 10, 11, 12, 13, 14, 15, 16, 17, 18] [] [] (fun a => [(8, .t (.sc (.int .i64 a.2)))]) (fun a => []) (fun a => a.1 ≤ fu ∧ zaf a.1 x1 o1 a.2 = some r ∧ 0 ≤ a.2) (fu, 0) ⟨Nat.le_refl _, F0, by simp⟩ ?_
 clear F0
 rintro ⟨fu, g1⟩ ⟨hl2, F1, hn_g1⟩
 dsimp only at hl2 F1 hn_g1 ⊢
 obtain _ | fu := fu
 · rw [zaf] at F1; cases F1
 rw [zaf] at F1
 refine zb (za ?_)
 refine s_lt ?_
 refine zf (zd (zb ?_))
 refine zm F1 ?_ ?_ <;> intro C3 F2
 refine zV 0 (fun B4 => ?_)
 refine zi (zd (zb (zk (zb (za ?_)))))
 refine s_mv ?_
 refine s_as ?_
 refine zf (zd (zb (za ?_)))
 iterate 3 refine s_mv ?_
 obtain ⟨v5, V5, F3⟩ := zc F2
 refine zN Hit.row V5 (Hit.row_eq _) yE42 ?_
 refine zaq yA48 yS48 ?_
 obtain ⟨v6, V6, F4⟩ := zc F3
 refine zZ [(9000, 9000)] [] _ _ (ih_m_impl_hitOk_1 fu (by omega) _ _ _ V6) ?_
 refine zf (zd ?_)
 refine zm F4 ?_ ?_ <;> intro C7 F5
 refine zb (za ?_)
 refine s_mv ?_
 refine s_as ?_
 refine zf (zd (zh (zj (zg (zx (zj (zg (zn ?_))))))))
 cases F5
 exact zl _ [] Tryz.results104
 refine zi (z5 (zd (za ?_)))
 refine zO (zaA C3 B4 hn_g1) ?_
 refine s_mv ?_
 refine zf ?_
 exact s_rn (fu, (g1 + 1)) ⟨by first | omega | (dsimp only; omega), F5, by first | omega | (dsimp only; omega)⟩
 refine zz (zq (zp (zr (zd (zb (za ?_))))))
 refine s_as ?_
 refine zf (zd (zh (zn ?_)))
 cases F2
 exact zl _ [] Tryz.results104
theorem m_impl_hitOk_all (fuel : Nat) : zdi fuel ∧ zdd fuel ∧ zaj fuel ∧ zat fuel := by
 induction fuel using Nat.strongRecOn with
 | _ N ih =>
   cases N with
   | zero => exact ⟨(by intro x1 r h; rw [zdS] at h; cases h), (by intro x1 o1 r h; rw [zdG] at h; cases h), (by intro x1 o1 r h; rw [zaG] at h; cases h), (by intro x1 o1 r h; rw [zaT] at h; cases h)⟩
   | succ fu => exact ⟨m_impl_hitOk_st fu (fun k hk => (ih k (by omega)).1) (fun k hk => (ih k (by omega)).2.1) (fun k hk => (ih k (by omega)).2.2.1) (fun k hk => (ih k (by omega)).2.2.2), m_impl_hitOk_1_st fu (fun k hk => (ih k (by omega)).1) (fun k hk => (ih k (by omega)).2.1) (fun k hk => (ih k (by omega)).2.2.1) (fun k hk => (ih k (by omega)).2.2.2), ze5 fu (fun k hk => (ih k (by omega)).1) (fun k hk => (ih k (by omega)).2.1) (fun k hk => (ih k (by omega)).2.2.1) (fun k hk => (ih k (by omega)).2.2.2), zfN fu (fun k hk => (ih k (by omega)).1) (fun k hk => (ih k (by omega)).2.1) (fun k hk => (ih k (by omega)).2.2.1) (fun k hk => (ih k (by omega)).2.2.2)⟩
theorem m_impl_hitOk_ok (fuel : Nat) : zdi fuel := (m_impl_hitOk_all fuel).1
def m_impl_hitAt_1_AC (fuel : Nat) : Prop := ∀ (x1 : Hit) (o1 : Form) (r : Bool), zdH fuel x1 o1 = some r → AC Tryz.prog 105 [.ag [.t (.sc (.int .i64 x1.name.kind)), .t (.sc (.str x1.name.name)), .t (.sc (.int .i64 x1.name.n)), .t (.sl (x1.name.scopes.map rI)), .t (.sl (x1.name.kids.map Form.row)), .t (.sc (.int .i64 x1.depth)), .t (.sc (.int .i64 x1.one.kind)), .t (.sc (.str x1.one.name)), .t (.sc (.int .i64 x1.one.n)), .t (.sl (x1.one.scopes.map rI)), .t (.sl (x1.one.kids.map Form.row)), .t (.sl (x1.many.map Hit.row))], .rf 9000 0] (objs [(9000, .box [.t (.sc (.int .i64 o1.kind)), .t (.sc (.str o1.name)), .t (.sc (.int .i64 o1.n)), .t (.sl (o1.scopes.map rI)), .t (.sl (o1.kids.map Form.row))])]) (.t (.sc (.bool r))) (objs [(9000, .box [.t (.sc (.int .i64 o1.kind)), .t (.sc (.str o1.name)), .t (.sc (.int .i64 o1.n)), .t (.sl (o1.scopes.map rI)), .t (.sl (o1.kids.map Form.row))])])
theorem m_impl_hitAt_1_ok (fuel : Nat) : m_impl_hitAt_1_AC fuel := by
 intro x1 o1 r F0
 unfold zdH at F0
 refine AC_i [.t (.sc (.bool r))] Tryz.func105 rfl Tryz.ntmps105 ?_
 intro C hC
 refine zb (za ?_)
 refine zbh ?_
 refine s_as ?_
 refine zf (zd (zb (za ?_)))
 refine s_fa zeX ?_
 refine zaq yA32 yS32 ?_
 refine zK yA32 yS32 ?_
 obtain ⟨v1, V1, F1⟩ := zc F0
 refine zv [] (zbE fuel _ _ _ V1) ?_
 refine s_as ?_
 refine zf (zd (zh (zn ?_)))
 cases F1
 exact zl _ [] Tryz.results105
def zfP (fuel : Nat) : Prop := ∀ (x1 : (List Hit)) (o1 : Form) (r : Int), zaU fuel x1 o1 = some r → AC Tryz.prog 104 [.t (.sl (x1.map Hit.row)), .fn 105 [.rf 9000 0]] (objs [(9000, .box [.t (.sc (.int .i64 o1.kind)), .t (.sc (.str o1.name)), .t (.sc (.int .i64 o1.n)), .t (.sl (o1.scopes.map rI)), .t (.sl (o1.kids.map Form.row))])]) (.t (.sc (.int .i64 r))) (objs [(9000, .box [.t (.sc (.int .i64 o1.kind)), .t (.sc (.str o1.name)), .t (.sc (.int .i64 o1.n)), .t (.sl (o1.scopes.map rI)), .t (.sl (o1.kids.map Form.row))])])
theorem zfO (fuel : Nat) : zfP fuel := by
 intro x1 o1 r F0
 unfold zaU at F0
 refine AC_i [.t (.sc (.int .i64 r))] Tryz.func104 rfl Tryz.ntmps104 ?_
 intro C hC
 refine zb (za ?_)
 refine s_as ?_
 refine zf (zd (zb (zb (za ?_))))
 refine s_mv ?_
 refine zE yU42 ?_
 refine s_mv ?_
 refine zf (zd (zk ?_))
 refine za1 (β := Int) [4, 5, 8, 9, 10, 11, 12, 13, 14, 15, 16, 17, 18] [] [] (fun a => [(8, .t (.sc (.int .i64 a.2)))]) (fun a => []) (fun a => a.1 ≤ fuel ∧ zP a.1 x1 o1 a.2 = some r ∧ 0 ≤ a.2) (fuel, 0) ⟨Nat.le_refl _, F0, by simp⟩ ?_
 clear F0
 rintro ⟨fu, g1⟩ ⟨hl2, F1, hn_g1⟩
 dsimp only at hl2 F1 hn_g1 ⊢
 obtain _ | fu := fu
 · rw [zP] at F1; cases F1
 rw [zP] at F1
 refine zb (za ?_)
 refine s_lt ?_
 refine zf (zd (zb ?_))
 refine zm F1 ?_ ?_ <;> intro C3 F2
 refine zV 0 (fun B4 => ?_)
 refine zi (zd (zb (zk (zb (za ?_)))))
 refine s_mv ?_
 refine s_as ?_
 refine zf (zd (zb (za ?_)))
 iterate 3 refine s_mv ?_
 obtain ⟨v5, V5, F3⟩ := zc F2
 refine zN Hit.row V5 (Hit.row_eq _) yE42 ?_
 refine zaq yA48 yS48 ?_
 obtain ⟨v6, V6, F4⟩ := zc F3
 refine zZ [(9000, 9000)] [] _ _ (m_impl_hitAt_1_ok fu _ _ _ V6) ?_
 refine zf (zd ?_)
 refine zm F4 ?_ ?_ <;> intro C7 F5
 refine zb (za ?_)
 refine s_mv ?_
 refine s_as ?_
 refine zf (zd (zh (zj (zg (zx (zj (zg (zn ?_))))))))
 cases F5
 exact zl _ [] Tryz.results104
 refine zi (z5 (zd (za ?_)))
 refine zO (zaA C3 B4 hn_g1) ?_
 refine s_mv ?_
 refine zf ?_
 exact s_rn (fu, (g1 + 1)) ⟨by first | omega | (dsimp only; omega), F5, by first | omega | (dsimp only; omega)⟩
 refine zz (zq (zp (zr (zd (zb (za ?_))))))
 refine s_as ?_
 refine zf (zd (zh (zn ?_)))
 cases F2
 exact zl _ [] Tryz.results104
def m_impl_hitAt_AC (fuel : Nat) : Prop := ∀ (x1 : (List Hit)) (x2 : Form) (r : Int), zeJ fuel x1 x2 = some r → AC Tryz.prog 49 [.t (.sl (x1.map Hit.row)), .ag [.t (.sc (.int .i64 x2.kind)), .t (.sc (.str x2.name)), .t (.sc (.int .i64 x2.n)), .t (.sl (x2.scopes.map rI)), .t (.sl (x2.kids.map Form.row))]] noOb (.t (.sc (.int .i64 r))) noOb
theorem m_impl_hitAt_ok (fuel : Nat) : m_impl_hitAt_AC fuel := by
 intro x1 x2 r F0
 unfold zeJ at F0
 refine AC_i [.t (.sc (.int .i64 r))] Tryz.func49 rfl Tryz.ntmps49 ?_
 intro C hC
 refine zb (za ?_)
 refine zbh ?_
 refine s_as ?_
 refine zf (zd (zb (za ?_)))
 refine s_mv ?_
 refine s_fn ?_
 obtain ⟨v1, V1, F1⟩ := zc F0
 refine zZ [(9000, 3)] [] _ _ (zfO fuel _ _ _ V1) ?_
 refine s_as ?_
 refine zf (zd (zh (zn ?_)))
 cases F1
 exact zl [] [] Tryz.results49
def m_impl_HitsValid_AC (fuel : Nat) : Prop := ∀ (x1 : (List Hit)) (r : Bool), zdu fuel x1 = some r → AC Tryz.prog 19 [.t (.sl (x1.map Hit.row))] noOb (.t (.sc (.bool r))) noOb
theorem zgD (fuel : Nat) : m_impl_HitsValid_AC fuel := by
 intro x1 r F0
 unfold zdu at F0
 refine AC_i [.t (.sc (.bool r))] Tryz.func19 rfl Tryz.ntmps19 ?_
 intro C hC
 refine zb (za ?_)
 refine s_as ?_
 refine zf (zd (zb (zb (za ?_))))
 refine s_mv ?_
 refine zE yU42 ?_
 refine s_mv ?_
 refine zf (zd (zk ?_))
 refine za1 (β := Int) [2, 3, 4, 7, 8, 9, 10, 11, 12, 13, 14, 15, 16, 17, 18, 19, 20, 21, 22, 23, 24] [] [4] (fun a => [(7, .t (.sc (.int .i64 a.2)))]) (fun a => []) (fun a => a.1 ≤ fuel ∧ zbs a.1 x1 a.2 = some r ∧ 0 ≤ a.2) (fuel, 0) ⟨Nat.le_refl _, F0, by simp⟩ ?_
 clear F0
 rintro ⟨fu, g1⟩ ⟨hl2, F1, hn_g1⟩
 dsimp only at hl2 F1 hn_g1 ⊢
 obtain _ | fu := fu
 · rw [zbs] at F1; cases F1
 rw [zbs] at F1
 refine zb (za ?_)
 refine s_lt ?_
 refine zf (zd (zb ?_))
 refine zm F1 ?_ ?_ <;> intro C3 F2
 refine zV 0 (fun B4 => ?_)
 refine zi (zd (zb (zk (zb (za ?_)))))
 refine s_mv ?_
 obtain ⟨v5, V5, F3⟩ := zc F2
 refine zN Hit.row V5 (Hit.row_eq _) yE42 ?_
 refine zaq yA48 yS48 ?_
 refine z6 yZ48 ?_
 refine s_as ?_
 refine zac yS48 ?_
 refine zf (zd (zb ?_))
 refine zY yMix (by kernel_rfl) ?_
 refine zK yA48 yS48 ?_
 obtain ⟨v6, V6, F4⟩ := zc F3
 refine zv [] (m_impl_hitOk_ok fu _ _ V6) ?_
 refine zby ?_
 refine s_mv ?_
 refine zo _ 15 F4 ?_ ?_ <;> intro C7 F5
 iterate 7 refine r_no rfl ?_
 refine zA ?_
 refine zal (by kernel_rfl) ?_
 refine zd (zM rfl (zb (za ?_)))
 refine s_as ?_
 refine zf (zd (zh (zj (zg (zx (zj (zg (zn ?_))))))))
 cases F5
 exact zl [] [] Tryz.results19
 refine s_mv ?_
 refine s_mv ?_
 obtain ⟨v8, V8, F6⟩ := zc F5
 refine s_sl01 Hit.row (fun y => Hit.row_len y) V8 yU42 yE42 ?_
 refine s_fa zeX ?_
 refine zaq yA32 yS32 ?_
 obtain ⟨v9, V9, F7⟩ := zc F6
 refine zv [] (m_impl_hitAt_ok fu _ _ _ V9) ?_
 refine s_ge ?_
 refine zB ?_
 refine zal (by kernel_rfl) ?_
 refine zd ?_
 refine zm F7 ?_ ?_ <;> intro C10 F8
 refine zb (za ?_)
 refine s_as ?_
 refine zf (zd (zh (zj (zg (zx (zj (zg (zn ?_))))))))
 cases F8
 exact zl [] [] Tryz.results19
 refine zi (z5 (zd (za ?_)))
 refine zO (zaA C3 B4 hn_g1) ?_
 refine s_mv ?_
 refine zf ?_
 exact s_rn (fu, (g1 + 1)) ⟨by first | omega | (dsimp only; omega), F8, by first | omega | (dsimp only; omega)⟩
 refine zz (zq (zp (zr (zd (zb (za ?_))))))
 refine s_mv ?_
 refine zE yU42 ?_
 refine s_le ?_
 refine s_as ?_
 refine zf (zd (zh (zn ?_)))
 cases F2
 exact zl [] [] Tryz.results19
def m_impl_named_AC (fuel : Nat) : Prop := ∀ (x1 : Form) (x2 : ByteArray) (r : Bool), zcl fuel x1 x2 = some r → AC Tryz.prog 71 [.ag [.t (.sc (.int .i64 x1.kind)), .t (.sc (.str x1.name)), .t (.sc (.int .i64 x1.n)), .t (.sl (x1.scopes.map rI)), .t (.sl (x1.kids.map Form.row))], .t (.sc (.str x2))] noOb (.t (.sc (.bool r))) noOb
theorem zcK (fuel : Nat) : m_impl_named_AC fuel := by
 intro x1 x2 r F0
 unfold zcl at F0
 refine AC_i [.t (.sc (.bool r))] Tryz.func71 rfl Tryz.ntmps71 ?_
 intro C hC
 refine zb (za ?_)
 refine zbh ?_
 refine s_as ?_
 refine zf (zd (zb (za ?_)))
 refine s_fa zc2 ?_
 refine zu yA3 ?_
 refine s_eq ?_
 refine s_mv ?_
 refine zo _ 8 F0 ?_ ?_ <;> intro C1 F1
 refine s_fa zdm ?_
 refine zu yA9 ?_
 refine s_mv ?_
 refine zg3 ?_
 refine zA ?_
 refine s_as ?_
 refine zf (zd (zh (zn ?_)))
 cases F1
 exact zl [] [] Tryz.results71
 iterate 4 refine r_no rfl ?_
 refine zB ?_
 refine s_as ?_
 refine zf (zd (zh (zn ?_)))
 cases F1
 exact zl [] [] Tryz.results71
def m_impl_dotsAt_1_AC (fuel : Nat) : Prop := ∀ (x1 : Form) (r : Bool), zeK fuel x1 = some r → AC Tryz.prog 131 [.ag [.t (.sc (.int .i64 x1.kind)), .t (.sc (.str x1.name)), .t (.sc (.int .i64 x1.n)), .t (.sl (x1.scopes.map rI)), .t (.sl (x1.kids.map Form.row))]] noOb (.t (.sc (.bool r))) noOb
theorem m_impl_dotsAt_1_ok (fuel : Nat) : m_impl_dotsAt_1_AC fuel := by
 intro x1 r F0
 unfold zeK at F0
 refine AC_i [.t (.sc (.bool r))] Tryz.func131 rfl Tryz.ntmps131 ?_
 intro C hC
 refine zb (za ?_)
 refine zbh ?_
 refine s_as ?_
 refine zf (zd (zb (za ?_)))
 refine zK yA32 yS32 ?_
 obtain ⟨v1, V1, F1⟩ := zc F0
 refine zv [] (zcK fuel _ _ _ V1) ?_
 refine s_as ?_
 refine zf (zd (zh (zn ?_)))
 cases F1
 exact zl [] [] Tryz.results131
def zfu (fuel : Nat) : Prop := ∀ (x1 : (List Form)) (r : Int), zbi fuel x1 = some r → AC Tryz.prog 130 [.t (.sl (x1.map Form.row)), .fn 131 []] noOb (.t (.sc (.int .i64 r))) noOb
theorem zft (fuel : Nat) : zfu fuel := by
 intro x1 r F0
 unfold zbi at F0
 refine AC_i [.t (.sc (.int .i64 r))] Tryz.func130 rfl Tryz.ntmps130 ?_
 intro C hC
 refine zb (za ?_)
 refine s_as ?_
 refine zf (zd (zb (zb (za ?_))))
 refine s_mv ?_
 refine zE yU24 ?_
 refine s_mv ?_
 refine zf (zd (zk ?_))
 refine za1 (β := Int) [4, 5, 8, 9, 10, 11, 12, 13, 14, 15, 16, 17, 18] [] [] (fun a => [(8, .t (.sc (.int .i64 a.2)))]) (fun a => []) (fun a => a.1 ≤ fuel ∧ z9 a.1 x1 a.2 = some r ∧ 0 ≤ a.2) (fuel, 0) ⟨Nat.le_refl _, F0, by simp⟩ ?_
 clear F0
 rintro ⟨fu, g1⟩ ⟨hl2, F1, hn_g1⟩
 dsimp only at hl2 F1 hn_g1 ⊢
 obtain _ | fu := fu
 · rw [z9] at F1; cases F1
 rw [z9] at F1
 refine zb (za ?_)
 refine s_lt ?_
 refine zf (zd (zb ?_))
 refine zm F1 ?_ ?_ <;> intro C3 F2
 refine zV 0 (fun B4 => ?_)
 refine zi (zd (zb (zk (zb (za ?_)))))
 refine s_mv ?_
 refine s_as ?_
 refine zf (zd (zb (za ?_)))
 iterate 3 refine s_mv ?_
 obtain ⟨v5, V5, F3⟩ := zc F2
 refine zN Form.row V5 (Form.row_eq _) yE24 ?_
 refine zaq yA32 yS32 ?_
 obtain ⟨v6, V6, F4⟩ := zc F3
 refine zv [] (m_impl_dotsAt_1_ok fu _ _ V6) ?_
 refine zf (zd ?_)
 refine zm F4 ?_ ?_ <;> intro C7 F5
 refine zb (za ?_)
 refine s_mv ?_
 refine s_as ?_
 refine zf (zd (zh (zj (zg (zx (zj (zg (zn ?_))))))))
 cases F5
 exact zl [] [] Tryz.results130
 refine zi (z5 (zd (za ?_)))
 refine zO (zaA C3 B4 hn_g1) ?_
 refine s_mv ?_
 refine zf ?_
 exact s_rn (fu, (g1 + 1)) ⟨by first | omega | (dsimp only; omega), F5, by first | omega | (dsimp only; omega)⟩
 refine zz (zq (zp (zr (zd (zb (za ?_))))))
 refine s_as ?_
 refine zf (zd (zh (zn ?_)))
 cases F2
 exact zl [] [] Tryz.results130
end Go.Abs
