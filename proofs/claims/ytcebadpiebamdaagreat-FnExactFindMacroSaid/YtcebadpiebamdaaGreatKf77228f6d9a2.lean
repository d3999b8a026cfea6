/- A part of the proof: what the functions that the law calls answer, as pure values. -/
import Derived.Test.YtcebadpiebamdaaGreatK423f84c32d54
import Derived.Test.YtcebadpiebamdaaGreatKcd36416719db
import Derived.Test.YtcebadpiebamdaaGreatKf8de2f3a577a
set_option linter.unusedSimpArgs false
set_option linter.unusedVariables false
set_option maxRecDepth 100000
set_option maxHeartbeats 4000000
namespace Go.Abs
open Go.Proofs
theorem m_spec_l1Is_all (fuel : Nat) : zf0 fuel := by
 induction fuel using Nat.strongRecOn with
 | _ N ih =>
   cases N with
   | zero => exact (by intro x1 x2 r h; rw [zew] at h; cases h)
   | succ fu => exact m_spec_l1Is_st fu (fun k hk => (ih k (by omega)))
theorem m_spec_l1Is_ok (fuel : Nat) : zf0 fuel := (m_spec_l1Is_all fuel)
def zeL (fuel : Nat) : Prop := ∀ (x1 : Form) (r : Int), zdx fuel x1 = some r → AC Tryz.prog 87 [.ag [.t (.sc (.int .i64 x1.kind)), .t (.sc (.str x1.name)), .t (.sc (.int .i64 x1.n)), .t (.sl (x1.scopes.map rI)), .t (.sl (x1.kids.map Form.row))]] noOb (.t (.sc (.int .i64 r))) noOb
theorem m_spec_l1Count_st (fu : Nat) (ih_m_spec_l1Count : ∀ k, k ≤ fu → zeL k) : zeL (fu + 1) := by
 intro x1 r F0
 rw [zdx] at F0
 refine AC_i [.t (.sc (.int .i64 r))] Tryz.func87 rfl Tryz.ntmps87 ?_
 intro C hC
 refine zb (za ?_)
 refine zaF ?_
 refine s_as ?_
 refine zf (zd (zb (za ?_)))
 refine s_as ?_
 refine zf (zd (zb (zb (za ?_))))
 refine s_as ?_
 refine zf (zd (zl ?_))
 refine zap (β := Int × Int) [3, 4, 5, 6, 7, 8, 9, 10, 11, 12, 13, 14, 15, 16, 17, 18, 19] [] [] (fun a => [(3, .t (.sc (.int .i64 a.2.1))), (4, .t (.sc (.int .i64 a.2.2)))]) (fun a => []) (fun a => a.1 ≤ fu ∧ zbY a.1 x1 a.2.1 a.2.2 = some r ∧ 0 ≤ a.2.2) (fu, 1, 0) ⟨Nat.le_refl _, F0, by simp⟩ ?_
 clear F0
 rintro ⟨fu, g1, g2⟩ ⟨hl3, F1, hn_g2⟩
 dsimp only at hl3 F1 hn_g2 ⊢
 obtain _ | fu := fu
 · rw [zbY] at F1; cases F1
 rw [zbY] at F1
 refine zb (zb (za ?_))
 refine s_mv ?_
 refine s_fa zZ ?_
 refine zp yA35 ?_
 refine zE yU35 ?_
 refine s_lt ?_
 refine zf (zd ?_)
 refine zn F1 ?_ ?_ <;> intro C4 F2
 refine zG 7 (fun B5 => ?_)
 refine zi (zd (zb (zl (za ?_))))
 refine s_mv ?_
 refine s_fa zZ ?_
 refine zp yA35 ?_
 refine s_mv ?_
 obtain ⟨v6, V6, F3⟩ := zc F2
 refine zL Form.row V6 (Form.row_eq _) yE35 ?_
 refine zag yA37 yS37 ?_
 obtain ⟨v7, V7, F4⟩ := zc F3
 refine zz [] (ih_m_spec_l1Count fu (by omega) _ _ V7) ?_
 refine zI rfl ?_
 refine s_as ?_
 refine zf (z6 (zd (za ?_)))
 refine s_mv ?_
 refine zI (zak C4 B5 hn_g2) ?_
 refine s_as ?_
 refine zf ?_
 exact s_rn (fu, (w64 (g1 + v7)), (g2 + 1)) ⟨by first | omega | (dsimp only; omega), F4, by first | omega | (dsimp only; omega)⟩
 refine zB (zw (zr (zx (zd (zb (za ?_))))))
 refine s_mv ?_
 refine s_as ?_
 refine zf (zd (zh (zm ?_)))
 cases F2
 exact zk [] [] Tryz.results87
theorem m_spec_l1Count_all (fuel : Nat) : zeL fuel := by
 induction fuel using Nat.strongRecOn with
 | _ N ih =>
   cases N with
   | zero => exact (by intro x1 r h; rw [zdx] at h; cases h)
   | succ fu => exact m_spec_l1Count_st fu (fun k hk => (ih k (by omega)))
theorem m_spec_l1Count_ok (fuel : Nat) : zeL fuel := (m_spec_l1Count_all fuel)
def m_spec_FormValid_AC (fuel : Nat) : Prop := ∀ (x1 : Form) (r : Bool), zcD fuel x1 = some r → AC Tryz.prog 43 [.ag [.t (.sc (.int .i64 x1.kind)), .t (.sc (.str x1.name)), .t (.sc (.int .i64 x1.n)), .t (.sl (x1.scopes.map rI)), .t (.sl (x1.kids.map Form.row))]] noOb (.t (.sc (.bool r))) noOb
theorem zfk (fuel : Nat) : m_spec_FormValid_AC fuel := by
 intro x1 r F0
 unfold zcD at F0
 refine AC_i [.t (.sc (.bool r))] Tryz.func43 rfl Tryz.ntmps43 ?_
 intro C hC
 refine zb (za ?_)
 refine zaF ?_
 refine s_as ?_
 refine zf (zd (zb (za ?_)))
 refine zad yA37 yS37 ?_
 obtain ⟨v1, V1, F1⟩ := zc F0
 refine zz [] (m_spec_l1Is_ok fuel _ _ _ V1) ?_
 refine s_mv ?_
 refine zy _ 5 F1 ?_ ?_ <;> intro C2 F2
 refine zad yA37 yS37 ?_
 obtain ⟨v3, V3, F3⟩ := zc F2
 refine zz [] (m_spec_l1Count_ok fuel _ _ V3) ?_
 refine s_le ?_
 refine zC ?_
 refine s_as ?_
 refine zf (zd (zh (zm ?_)))
 cases F3
 exact zk [] [] Tryz.results43
 iterate 3 refine r_no rfl ?_
 refine zF ?_
 refine s_as ?_
 refine zf (zd (zh (zm ?_)))
 cases F2
 exact zk [] [] Tryz.results43
def m_spec_l3Is_AC (fuel : Nat) : Prop := ∀ (x1 : Form) (r : Bool), zgy fuel x1 = some r → AC Tryz.prog 126 [.ag [.t (.sc (.int .i64 x1.kind)), .t (.sc (.str x1.name)), .t (.sc (.int .i64 x1.n)), .t (.sl (x1.scopes.map rI)), .t (.sl (x1.kids.map Form.row))]] noOb (.t (.sc (.bool r))) noOb
theorem m_spec_l3Is_ok (fuel : Nat) : m_spec_l3Is_AC fuel := by
 intro x1 r F0
 unfold zgy at F0
 refine AC_i [.t (.sc (.bool r))] Tryz.func126 rfl Tryz.ntmps126 ?_
 intro C hC
 refine zb (za ?_)
 refine zaF ?_
 refine s_as ?_
 refine zf (zd (zb (za ?_)))
 refine s_fa zc8 ?_
 refine zp yA3 ?_
 refine s_eq ?_
 refine s_mv ?_
 refine zy _ 6 F0 ?_ ?_ <;> intro C1 F1
 refine zad yA37 yS37 ?_
 obtain ⟨v2, V2, F2⟩ := zc F1
 refine zz [] (zfk fuel _ _ V2) ?_
 refine zC ?_
 refine s_as ?_
 refine zf (zd (zh (zm ?_)))
 cases F2
 exact zk [] [] Tryz.results126
 refine r_no rfl (r_no rfl ?_)
 refine zF ?_
 refine s_as ?_
 refine zf (zd (zh (zm ?_)))
 cases F1
 exact zk [] [] Tryz.results126
def zer (fuel : Nat) : Prop := ∀ (x1 : Form) (x2 : Form) (r : Bool), zbo fuel x1 x2 = some r → AC Tryz.prog 89 [.ag [.t (.sc (.int .i64 x1.kind)), .t (.sc (.str x1.name)), .t (.sc (.int .i64 x1.n)), .t (.sl (x1.scopes.map rI)), .t (.sl (x1.kids.map Form.row))], .ag [.t (.sc (.int .i64 x2.kind)), .t (.sc (.str x2.name)), .t (.sc (.int .i64 x2.n)), .t (.sl (x2.scopes.map rI)), .t (.sl (x2.kids.map Form.row))]] noOb (.t (.sc (.bool r))) noOb
theorem m_spec_FormSame_st (fu : Nat) (ih_m_spec_FormSame : ∀ k, k ≤ fu → zer k) : zer (fu + 1) := by
 intro x1 x2 r F0
 rw [zbo] at F0
 refine AC_i [.t (.sc (.bool r))] Tryz.func89 rfl Tryz.ntmps89 ?_
 intro C hC
 refine zb (za ?_)
 refine zaF ?_
 refine zaF ?_
 refine s_as ?_
 refine zf (zd (zb (zb (za ?_))))
 refine s_fa zc8 ?_
 refine zp yA3 ?_
 refine s_fa zc8 ?_
 refine zp yA3 ?_
 refine s_ne ?_
 refine s_mv ?_
 refine zy _ 11 F0 ?_ ?_ <;> intro C1 F1
 iterate 5 refine r_no rfl ?_
 refine zC ?_
 refine s_mv ?_
 iterate 5 refine r_no rfl ?_
 refine zC ?_
 refine s_mv ?_
 iterate 6 refine r_no rfl ?_
 refine zC ?_
 refine s_mv ?_
 iterate 7 refine r_no rfl ?_
 refine zC ?_
 refine zf (zd (zM rfl (zb (za ?_))))
 refine s_as ?_
 refine zf (zd (zh (zg (zm ?_))))
 cases F1
 exact zk [] [] Tryz.results89
 refine s_fa zcH ?_
 refine zp yA9 ?_
 refine s_fa zcH ?_
 refine zp yA9 ?_
 refine s_neS ?_
 refine zF ?_
 refine s_mv ?_
 refine zy _ 18 F1 ?_ ?_ <;> intro C2 F2
 iterate 5 refine r_no rfl ?_
 refine zC ?_
 refine s_mv ?_
 iterate 6 refine r_no rfl ?_
 refine zC ?_
 refine s_mv ?_
 iterate 7 refine r_no rfl ?_
 refine zC ?_
 refine zf (zd (zM rfl (zb (za ?_))))
 refine s_as ?_
 refine zf (zd (zh (zg (zm ?_))))
 cases F2
 exact zk [] [] Tryz.results89
 refine s_fa zep ?_
 refine zp yA3 ?_
 refine s_fa zep ?_
 refine zp yA3 ?_
 refine s_ne ?_
 refine zF ?_
 refine s_mv ?_
 refine zy _ 25 F2 ?_ ?_ <;> intro C3 F3
 iterate 6 refine r_no rfl ?_
 refine zC ?_
 refine s_mv ?_
 iterate 7 refine r_no rfl ?_
 refine zC ?_
 refine zf (zd (zM rfl (zb (za ?_))))
 refine s_as ?_
 refine zf (zd (zh (zg (zm ?_))))
 cases F3
 exact zk [] [] Tryz.results89
 refine s_fa zeu ?_
 refine zp yA23 ?_
 refine s_fa zeu ?_
 refine zp yA23 ?_
 obtain ⟨v4, V4, F4⟩ := zc F3
 refine zz [] (m_spec_l1Ints_ok fu _ _ _ V4) ?_
 refine zbC ?_
 refine zF ?_
 refine s_mv ?_
 refine zy _ 33 F4 ?_ ?_ <;> intro C5 F5
 iterate 7 refine r_no rfl ?_
 refine zC ?_
 refine zf (zd (zM rfl (zb (za ?_))))
 refine s_as ?_
 refine zf (zd (zh (zg (zm ?_))))
 cases F5
 exact zk [] [] Tryz.results89
 refine s_fa zZ ?_
 refine zp yA35 ?_
 refine zE yU35 ?_
 refine s_fa zZ ?_
 refine zp yA35 ?_
 refine zE yU35 ?_
 refine s_ne ?_
 refine zF ?_
 refine zf (zd ?_)
 refine zn F5 ?_ ?_ <;> intro C6 F6
 refine zb (za ?_)
 refine s_as ?_
 refine zf (zd (zh (zg (zm ?_))))
 cases F6
 exact zk [] [] Tryz.results89
 refine zi (zd (zb (zb (za ?_))))
 refine s_as ?_
 refine zf (zd (zl ?_))
 refine zap (β := Int) [4, 5, 42, 43, 44, 45, 46, 47, 48, 49, 50, 51, 52, 53, 54, 55, 56, 57, 58, 59, 60] [] [] (fun a => [(5, .t (.sc (.int .i64 a.2)))]) (fun a => []) (fun a => a.1 ≤ fu ∧ zb5 a.1 x1 x2 a.2 = some r ∧ 0 ≤ a.2) (fu, 0) ⟨Nat.le_refl _, F6, by simp⟩ ?_
 clear F6
 rintro ⟨fu, g7⟩ ⟨hl8, F7, hn_g7⟩
 dsimp only at hl8 F7 hn_g7 ⊢
 obtain _ | fu := fu
 · rw [zb5] at F7; cases F7
 rw [zb5] at F7
 refine zb (zb (za ?_))
 refine s_mv ?_
 refine s_fa zZ ?_
 refine zp yA35 ?_
 refine zE yU35 ?_
 refine s_lt ?_
 refine zf (zd ?_)
 refine zn F7 ?_ ?_ <;> intro C9 F8
 refine zG 35 (fun B10 => ?_)
 refine zi (zd (zb (zl (zb ?_))))
 refine zaf yMix (by kernel_rfl) ?_
 refine s_fa zZ ?_
 refine zp yA35 ?_
 refine s_mv ?_
 obtain ⟨v11, V11, F9⟩ := zc F8
 refine zL Form.row V11 (Form.row_eq _) yE35 ?_
 refine zag yA37 yS37 ?_
 refine s_fa zZ ?_
 refine zp yA35 ?_
 refine s_mv ?_
 obtain ⟨v12, V12, F10⟩ := zc F9
 refine zL Form.row V12 (Form.row_eq _) yE35 ?_
 refine zag yA37 yS37 ?_
 obtain ⟨v13, V13, F11⟩ := zc F10
 refine zz [] (ih_m_spec_FormSame fu (by omega) _ _ _ V13) ?_
 refine zbC ?_
 refine zao (by kernel_rfl) ?_
 refine zd ?_
 refine zn F11 ?_ ?_ <;> intro C14 F12
 refine zb (za ?_)
 refine s_as ?_
 refine zf (zd (zh (zj (zg (zu (zj (zg (zm ?_))))))))
 cases F12
 exact zk [] [] Tryz.results89
 refine zi (z6 (zd (za ?_)))
 refine s_mv ?_
 refine zI (zak C9 B10 hn_g7) ?_
 refine s_as ?_
 refine zf ?_
 exact s_rn (fu, (g7 + 1)) ⟨by first | omega | (dsimp only; omega), F12, by first | omega | (dsimp only; omega)⟩
 refine zB (zw (zr (zx (zd (zb (za ?_))))))
 refine s_as ?_
 refine zf (zd (zh (zm ?_)))
 cases F8
 exact zk [] [] Tryz.results89
theorem m_spec_FormSame_all (fuel : Nat) : zer fuel := by
 induction fuel using Nat.strongRecOn with
 | _ N ih =>
   cases N with
   | zero => exact (by intro x1 x2 r h; rw [zbo] at h; cases h)
   | succ fu => exact m_spec_FormSame_st fu (fun k hk => (ih k (by omega)))
theorem zgR (fuel : Nat) : zer fuel := (m_spec_FormSame_all fuel)
def m_spec_l4In_AC (fuel : Nat) : Prop := ∀ (x1 : (List Form)) (x2 : Form) (r : Bool), zfj fuel x1 x2 = some r → AC Tryz.prog 84 [.t (.sl (x1.map Form.row)), .ag [.t (.sc (.int .i64 x2.kind)), .t (.sc (.str x2.name)), .t (.sc (.int .i64 x2.n)), .t (.sl (x2.scopes.map rI)), .t (.sl (x2.kids.map Form.row))]] noOb (.t (.sc (.bool r))) noOb
theorem zgZ (fuel : Nat) : m_spec_l4In_AC fuel := by
 intro x1 x2 r F0
 unfold zfj at F0
 refine AC_i [.t (.sc (.bool r))] Tryz.func84 rfl Tryz.ntmps84 ?_
 intro C hC
 refine zb (za ?_)
 refine zaF ?_
 refine s_as ?_
 refine zf (zd (zb (zb (za ?_))))
 refine s_as ?_
 refine zf (zd (zl ?_))
 refine zap (β := Int) [4, 5, 6, 7, 8, 9, 10, 11, 12, 13, 14, 15, 16, 17] [] [] (fun a => [(5, .t (.sc (.int .i64 a.2)))]) (fun a => []) (fun a => a.1 ≤ fuel ∧ zcS a.1 x1 x2 a.2 = some r ∧ 0 ≤ a.2) (fuel, 0) ⟨Nat.le_refl _, F0, by simp⟩ ?_
 clear F0
 rintro ⟨fu, g1⟩ ⟨hl2, F1, hn_g1⟩
 dsimp only at hl2 F1 hn_g1 ⊢
 obtain _ | fu := fu
 · rw [zcS] at F1; cases F1
 rw [zcS] at F1
 refine zb (zb (za ?_))
 refine s_mv ?_
 refine s_mv ?_
 refine zE yU35 ?_
 refine s_lt ?_
 refine zf (zd ?_)
 refine zn F1 ?_ ?_ <;> intro C3 F2
 refine zG 0 (fun B4 => ?_)
 refine zi (zd (zb (zl (zb ?_))))
 refine zaf yMix (by kernel_rfl) ?_
 refine s_mv ?_
 refine s_mv ?_
 obtain ⟨v5, V5, F3⟩ := zc F2
 refine zL Form.row V5 (Form.row_eq _) yE35 ?_
 refine zag yA37 yS37 ?_
 refine zad yA37 yS37 ?_
 obtain ⟨v6, V6, F4⟩ := zc F3
 refine zz [] (zgR fu _ _ _ V6) ?_
 refine zao (by kernel_rfl) ?_
 refine zd ?_
 refine zn F4 ?_ ?_ <;> intro C7 F5
 refine zb (za ?_)
 refine s_as ?_
 refine zf (zd (zh (zj (zg (zu (zj (zg (zm ?_))))))))
 cases F5
 exact zk [] [] Tryz.results84
 refine zi (z6 (zd (za ?_)))
 refine s_mv ?_
 refine zI (zak C3 B4 hn_g1) ?_
 refine s_as ?_
 refine zf ?_
 exact s_rn (fu, (g1 + 1)) ⟨by first | omega | (dsimp only; omega), F5, by first | omega | (dsimp only; omega)⟩
 refine zB (zw (zr (zx (zd (zb (za ?_))))))
 refine s_as ?_
 refine zf (zd (zh (zm ?_)))
 cases F2
 exact zk [] [] Tryz.results84
def m_spec_l4Literals_AC (fuel : Nat) : Prop := ∀ (x1 : (List Form)) (r : Bool), zcW fuel x1 = some r → AC Tryz.prog 81 [.t (.sl (x1.map Form.row))] noOb (.t (.sc (.bool r))) noOb
theorem zgj (fuel : Nat) : m_spec_l4Literals_AC fuel := by
 intro x1 r F0
 unfold zcW at F0
 refine AC_i [.t (.sc (.bool r))] Tryz.func81 rfl Tryz.ntmps81 ?_
 intro C hC
 refine zb (za ?_)
 refine s_as ?_
 refine zf (zd (zb (zb (za ?_))))
 refine s_as ?_
 refine zf (zd (zl ?_))
 refine zap (β := Int) [2, 3, 4, 5, 6, 7, 8, 9, 10, 11, 12, 13, 14, 15, 16, 17, 18, 19, 20, 21, 22, 23, 24, 25, 26, 27, 28, 29, 30, 31, 32, 33, 34, 35, 36, 37, 38, 39, 40, 41, 42, 43, 44, 45] [] [] (fun a => [(3, .t (.sc (.int .i64 a.2)))]) (fun a => []) (fun a => a.1 ≤ fuel ∧ za4 a.1 x1 a.2 = some r) (fuel, 0) ⟨Nat.le_refl _, F0⟩ ?_
 clear F0
 rintro ⟨fu, g1⟩ ⟨hl2, F1⟩
 dsimp only at hl2 F1 ⊢
 obtain _ | fu := fu
 · rw [za4] at F1; cases F1
 rw [za4] at F1
 refine zb (zb (za ?_))
 refine s_mv ?_
 refine s_mv ?_
 refine zE yU35 ?_
 refine s_lt ?_
 refine s_mv ?_
 refine zy _ 8 F1 ?_ ?_ <;> intro C3 F2
 refine s_mv ?_
 refine s_lt ?_
 refine zC ?_
 refine zf (zd ?_)
 refine zn F2 ?_ ?_ <;> intro C4 F3
 refine zi (zd (zb (zl (zb ?_))))
 refine zaf yMix (by kernel_rfl) ?_
 refine s_mv ?_
 refine s_mv ?_
 obtain ⟨v5, V5, F4⟩ := zc F3
 refine zL Form.row V5 (Form.row_eq _) yE35 ?_
 refine zag yA37 yS37 ?_
 obtain ⟨v6, V6, F5⟩ := zc F4
 refine zz [] (m_spec_l3Is_ok fu _ _ V6) ?_
 refine zbC ?_
 refine s_mv ?_
 refine zy _ 20 F5 ?_ ?_ <;> intro C7 F6
 iterate 6 refine r_no rfl ?_
 refine zC ?_
 refine s_mv ?_
 iterate 6 refine r_no rfl ?_
 refine zC ?_
 refine s_mv ?_
 iterate 8 refine r_no rfl ?_
 refine zC ?_
 refine zao (by kernel_rfl) ?_
 refine zd (zM rfl (zb (za ?_)))
 refine s_as ?_
 refine zf (zd (zh (zj (zg (zu (zj (zg (zm ?_))))))))
 cases F6
 exact zk [] [] Tryz.results81
 refine s_mv ?_
 refine s_mv ?_
 obtain ⟨v8, V8, F7⟩ := zc F6
 refine zL Form.row V8 (Form.row_eq _) yE35 ?_
 refine s_fa zcH ?_
 refine zp yA9 ?_
 refine s_eqS ?_
 refine zF ?_
 refine s_mv ?_
 refine zy _ 28 F7 ?_ ?_ <;> intro C9 F8
 iterate 6 refine r_no rfl ?_
 refine zC ?_
 refine s_mv ?_
 iterate 8 refine r_no rfl ?_
 refine zC ?_
 refine zao (by kernel_rfl) ?_
 refine zd (zM rfl (zb (za ?_)))
 refine s_as ?_
 refine zf (zd (zh (zj (zg (zu (zj (zg (zm ?_))))))))
 cases F8
 exact zk [] [] Tryz.results81
 refine s_mv ?_
 refine s_mv ?_
 obtain ⟨v10, V10, F9⟩ := zc F8
 refine zL Form.row V10 (Form.row_eq _) yE35 ?_
 refine s_fa zcH ?_
 refine zp yA9 ?_
 refine s_eqS ?_
 refine zF ?_
 refine s_mv ?_
 refine zy _ 36 F9 ?_ ?_ <;> intro C11 F10
 iterate 8 refine r_no rfl ?_
 refine zC ?_
 refine zao (by kernel_rfl) ?_
 refine zd (zM rfl (zb (za ?_)))
 refine s_as ?_
 refine zf (zd (zh (zj (zg (zu (zj (zg (zm ?_))))))))
 cases F10
 exact zk [] [] Tryz.results81
 refine s_mv ?_
 refine s_mv ?_
 obtain ⟨v12, V12, F11⟩ := zc F10
 refine s_sl01 Form.row (fun y => Form.row_len y) V12 yU35 yE35 ?_
 refine s_mv ?_
 refine s_mv ?_
 obtain ⟨v13, V13, F12⟩ := zc F11
 refine zL Form.row V13 (Form.row_eq _) yE35 ?_
 refine zag yA37 yS37 ?_
 obtain ⟨v14, V14, F13⟩ := zc F12
 refine zz [] (zgZ fu _ _ _ V14) ?_
 refine zF ?_
 refine zao (by kernel_rfl) ?_
 refine zd ?_
 refine zn F13 ?_ ?_ <;> intro C15 F14
 refine zb (za ?_)
 refine s_as ?_
 refine zf (zd (zh (zj (zg (zu (zj (zg (zm ?_))))))))
 cases F14
 exact zk [] [] Tryz.results81
 refine zi (z6 (zd (za ?_)))
 refine s_mv ?_
 refine zI rfl ?_
 refine s_as ?_
 refine zf ?_
 exact s_rn (fu, (w64 (g1 + 1))) ⟨by first | omega | (dsimp only; omega), F14⟩
 refine zB (zw (zr (zx (zd (zb (za ?_))))))
 refine s_mv ?_
 refine zE yU35 ?_
 refine s_lt ?_
 refine s_as ?_
 refine zf (zd (zh (zm ?_)))
 cases F3
 exact zk [] [] Tryz.results81
 refine r_no rfl (r_no rfl ?_)
 refine zF ?_
 refine zf (zd (zci rfl (zB (zw (zr (zx (zd (zb (za ?_)))))))))
 refine s_mv ?_
 refine zE yU35 ?_
 refine s_lt ?_
 refine s_as ?_
 refine zf (zd (zh (zm ?_)))
 cases F2
 exact zk [] [] Tryz.results81
def m_spec_l4Dots_AC (fuel : Nat) : Prop := ∀ (x1 : Form) (r : Bool), zbT fuel x1 = some r → AC Tryz.prog 119 [.ag [.t (.sc (.int .i64 x1.kind)), .t (.sc (.str x1.name)), .t (.sc (.int .i64 x1.n)), .t (.sl (x1.scopes.map rI)), .t (.sl (x1.kids.map Form.row))]] noOb (.t (.sc (.bool r))) noOb
theorem zbS (fuel : Nat) : m_spec_l4Dots_AC fuel := by
 intro x1 r F0
 unfold zbT at F0
 refine AC_i [.t (.sc (.bool r))] Tryz.func119 rfl Tryz.ntmps119 ?_
 intro C hC
 refine zb (za ?_)
 refine zaF ?_
 refine s_as ?_
 refine zf (zd (zb (za ?_)))
 refine s_fa zc8 ?_
 refine zp yA3 ?_
 refine s_eq ?_
 refine s_mv ?_
 refine zy _ 6 F0 ?_ ?_ <;> intro C1 F1
 refine s_fa zcH ?_
 refine zp yA9 ?_
 refine s_eqS ?_
 refine zC ?_
 refine s_as ?_
 refine zf (zd (zh (zm ?_)))
 cases F1
 exact zk [] [] Tryz.results119
 iterate 3 refine r_no rfl ?_
 refine zF ?_
 refine s_as ?_
 refine zf (zd (zh (zm ?_)))
 cases F1
 exact zk [] [] Tryz.results119
def zeJ (fuel : Nat) : Prop := ∀ (x1 : Form) (r : Bool), zdv fuel x1 = some r → AC Tryz.prog 82 [.ag [.t (.sc (.int .i64 x1.kind)), .t (.sc (.str x1.name)), .t (.sc (.int .i64 x1.n)), .t (.sl (x1.scopes.map rI)), .t (.sl (x1.kids.map Form.row))]] noOb (.t (.sc (.bool r))) noOb
theorem m_spec_l4Shape_st (fu : Nat) (ih_m_spec_l4Shape : ∀ k, k ≤ fu → zeJ k) : zeJ (fu + 1) := by
 intro x1 r F0
 rw [zdv] at F0
 refine AC_i [.t (.sc (.bool r))] Tryz.func82 rfl Tryz.ntmps82 ?_
 intro C hC
 refine zb (za ?_)
 refine zaF ?_
 refine s_as ?_
 refine zf (zd (zb (zb (za ?_))))
 refine zad yA37 yS37 ?_
 obtain ⟨v1, V1, F1⟩ := zc F0
 refine zz [] (zbS fu _ _ V1) ?_
 refine zf (zd ?_)
 refine zn F1 ?_ ?_ <;> intro C2 F2
 refine zb (za ?_)
 refine s_as ?_
 refine zf (zd (zh (zg (zm ?_))))
 cases F2
 exact zk [] [] Tryz.results82
 refine zi (zd (zb (za ?_)))
 refine s_as ?_
 refine zf (zd (zb (zb (za ?_))))
 refine s_as ?_
 refine zf (zd (zl ?_))
 refine zap (β := Int × Int) [2, 3, 4, 7, 8, 9, 10, 11, 12, 13, 14, 15, 16, 17, 18, 19, 20, 21, 22, 23, 24, 25, 26, 27, 28, 29, 30, 31, 32, 33, 34, 35, 36, 37, 38, 39] [] [] (fun a => [(3, .t (.sc (.int .i64 a.2.1))), (4, .t (.sc (.int .i64 a.2.2)))]) (fun a => []) (fun a => a.1 ≤ fu ∧ zbF a.1 x1 a.2.1 a.2.2 = some r ∧ 0 ≤ a.2.2) (fu, 0, 0) ⟨Nat.le_refl _, F2, by simp⟩ ?_
 clear F2
 rintro ⟨fu, g3, g4⟩ ⟨hl5, F3, hn_g4⟩
 dsimp only at hl5 F3 hn_g4 ⊢
 obtain _ | fu := fu
 · rw [zbF] at F3; cases F3
 rw [zbF] at F3
 refine zb (zb (za ?_))
 refine s_mv ?_
 refine s_fa zZ ?_
 refine zp yA35 ?_
 refine zE yU35 ?_
 refine s_lt ?_
 refine zf (zd ?_)
 refine zn F3 ?_ ?_ <;> intro C6 F4
 refine zG 9 (fun B7 => ?_)
 refine zi (zd (zb (zl (zb (zb (za ?_))))))
 refine s_fa zZ ?_
 refine zp yA35 ?_
 refine s_mv ?_
 obtain ⟨v8, V8, F5⟩ := zc F4
 refine zL Form.row V8 (Form.row_eq _) yE35 ?_
 refine zag yA37 yS37 ?_
 obtain ⟨v9, V9, F6⟩ := zc F5
 refine zz [] (zbS fu _ _ V9) ?_
 refine zf (zd ?_)
 refine zn F6 ?_ ?_ <;> intro C10 F7
 refine zb (za ?_)
 refine s_mv ?_
 refine zI rfl ?_
 refine s_as ?_
 refine zf (zd (zb (zb (za ?_))))
 refine s_mv ?_
 refine s_eq ?_
 refine s_mv ?_
 refine zy _ 24 F7 ?_ ?_ <;> intro C11 F8
 iterate 7 refine r_no rfl ?_
 refine zC ?_
 refine zf (zd (zM rfl (zb (za ?_))))
 refine s_as ?_
 refine zf (zd (zh (zg (zg (zj (zg (zu (zj (zg (zm ?_))))))))))
 cases F8
 exact zk [] [] Tryz.results82
 refine s_fa zZ ?_
 refine zp yA35 ?_
 refine s_mv ?_
 refine s_sub rfl ?_
 obtain ⟨v12, V12, F9⟩ := zc F8
 refine zL Form.row V12 (Form.row_eq _) yE35 ?_
 refine zag yA37 yS37 ?_
 obtain ⟨v13, V13, F10⟩ := zc F9
 refine zz [] (zbS fu _ _ V13) ?_
 refine zF ?_
 refine zf (zd ?_)
 refine zn F10 ?_ ?_ <;> intro C14 F11
 refine zb (za ?_)
 refine s_as ?_
 refine zf (zd (zh (zg (zg (zj (zg (zu (zj (zg (zm ?_))))))))))
 cases F11
 exact zk [] [] Tryz.results82
 refine zi (zd (zB (zw (zx (zd (za ?_))))))
 refine s_mv ?_
 refine zI (zak C6 B7 hn_g4) ?_
 refine s_as ?_
 refine zf ?_
 exact s_rn (fu, (w64 (g3 + 1)), (g4 + 1)) ⟨by first | omega | (dsimp only; omega), F11, by first | omega | (dsimp only; omega)⟩
 refine zi (zd (zb (za ?_)))
 refine s_fa zZ ?_
 refine zp yA35 ?_
 refine s_mv ?_
 obtain ⟨v15, V15, F8⟩ := zc F7
 refine zL Form.row V15 (Form.row_eq _) yE35 ?_
 refine zag yA37 yS37 ?_
 obtain ⟨v16, V16, F9⟩ := zc F8
 refine zz [] (ih_m_spec_l4Shape fu (by omega) _ _ V16) ?_
 refine zbC ?_
 refine zf (zd ?_)
 refine zn F9 ?_ ?_ <;> intro C17 F10
 refine zb (za ?_)
 refine s_as ?_
 refine zf (zd (zh (zj (zg (zu (zj (zg (zm ?_))))))))
 cases F10
 exact zk [] [] Tryz.results82
 refine zi (z6 (zd (za ?_)))
 refine s_mv ?_
 refine zI (zak C6 B7 hn_g4) ?_
 refine s_as ?_
 refine zf ?_
 exact s_rn (fu, g3, (g4 + 1)) ⟨by first | omega | (dsimp only; omega), F10, by first | omega | (dsimp only; omega)⟩
 refine zB (zw (zr (zx (zd (zb (za ?_))))))
 refine s_mv ?_
 refine s_le ?_
 refine s_as ?_
 refine zf (zd (zh (zm ?_)))
 cases F4
 exact zk [] [] Tryz.results82
theorem m_spec_l4Shape_all (fuel : Nat) : zeJ fuel := by
 induction fuel using Nat.strongRecOn with
 | _ N ih =>
   cases N with
   | zero => exact (by intro x1 r h; rw [zdv] at h; cases h)
   | succ fu => exact m_spec_l4Shape_st fu (fun k hk => (ih k (by omega)))
theorem m_spec_l4Shape_ok (fuel : Nat) : zeJ fuel := (m_spec_l4Shape_all fuel)
def m_spec_l4Var_AC (fuel : Nat) : Prop := ∀ (x1 : Form) (x2 : (List Form)) (r : Bool), zft fuel x1 x2 = some r → AC Tryz.prog 127 [.ag [.t (.sc (.int .i64 x1.kind)), .t (.sc (.str x1.name)), .t (.sc (.int .i64 x1.n)), .t (.sl (x1.scopes.map rI)), .t (.sl (x1.kids.map Form.row))], .t (.sl (x2.map Form.row))] noOb (.t (.sc (.bool r))) noOb
theorem m_spec_l4Var_ok (fuel : Nat) : m_spec_l4Var_AC fuel := by
 intro x1 x2 r F0
 unfold zft at F0
 refine AC_i [.t (.sc (.bool r))] Tryz.func127 rfl Tryz.ntmps127 ?_
 intro C hC
 refine zb (za ?_)
 refine zaF ?_
 refine s_as ?_
 refine zf (zd (zb (za ?_)))
 refine s_fa zc8 ?_
 refine zp yA3 ?_
 refine s_eq ?_
 refine s_mv ?_
 refine zy _ 8 F0 ?_ ?_ <;> intro C1 F1
 refine s_fa zcH ?_
 refine zp yA9 ?_
 refine s_neS ?_
 refine zC ?_
 refine s_mv ?_
 refine zy _ 13 F1 ?_ ?_ <;> intro C2 F2
 refine s_fa zcH ?_
 refine zp yA9 ?_
 refine s_neS ?_
 refine zC ?_
 refine s_mv ?_
 refine zy _ 18 F2 ?_ ?_ <;> intro C3 F3
 refine s_mv ?_
 refine zad yA37 yS37 ?_
 obtain ⟨v4, V4, F4⟩ := zc F3
 refine zz [] (zgZ fuel _ _ _ V4) ?_
 refine zbC ?_
 refine zC ?_
 refine s_as ?_
 refine zf (zd (zh (zm ?_)))
 cases F4
 exact zk [] [] Tryz.results127
 iterate 4 refine r_no rfl ?_
 refine zF ?_
 refine s_as ?_
 refine zf (zd (zh (zm ?_)))
 cases F3
 exact zk [] [] Tryz.results127
 iterate 3 refine r_no rfl ?_
 refine zF ?_
 refine s_mv ?_
 iterate 4 refine r_no rfl ?_
 refine zF ?_
 refine s_as ?_
 refine zf (zd (zh (zm ?_)))
 cases F2
 exact zk [] [] Tryz.results127
 iterate 3 refine r_no rfl ?_
 refine zF ?_
 refine s_mv ?_
 iterate 3 refine r_no rfl ?_
 refine zF ?_
 refine s_mv ?_
 iterate 4 refine r_no rfl ?_
 refine zF ?_
 refine s_as ?_
 refine zf (zd (zh (zm ?_)))
 cases F1
 exact zk [] [] Tryz.results127
def zfa (fuel : Nat) : Prop := ∀ (x1 : (List Form)) (x2 : Form) (x3 : (List Form)) (r : (List Form)), zdf fuel x1 x2 x3 = some r → AC Tryz.prog 83 [.ar 9300, .ag [.t (.sc (.int .i64 x2.kind)), .t (.sc (.str x2.name)), .t (.sc (.int .i64 x2.n)), .t (.sl (x2.scopes.map rI)), .t (.sl (x2.kids.map Form.row))], .t (.sl (x3.map Form.row))] (objs [(9300, .arr (x1.map Form.row) 37 true)]) (.ar 9200) (objs [(9300, .dead), (9200, .arr (r.map Form.row) 37 true)])
theorem m_spec_l4Vars_st (fu : Nat) (ih_m_spec_l4Vars : ∀ k, k ≤ fu → zfa k) : zfa (fu + 1) := by
 intro x1 x2 x3 r F0
 rw [zdf] at F0
 refine AC_i [.ar 9200] Tryz.func83 rfl Tryz.ntmps83 ?_
 intro C hC
 refine zb (za ?_)
 refine zaF ?_
 refine s_as ?_
 refine zf (zd (zb (zb (za ?_))))
 refine zad yA37 yS37 ?_
 refine s_mv ?_
 obtain ⟨v1, V1, F1⟩ := zc F0
 refine zz [] (m_spec_l4Var_ok fu _ _ _ V1) ?_
 refine zf (zd ?_)
 refine zn F1 ?_ ?_ <;> intro C2 F2
 refine za ?_
 refine s_mv ?_
 refine zad yA37 yS37 ?_
 refine s_bs Form.row [x2] yP35 yR37 ?_
 obtain ⟨hk3, F3⟩ := zaS F2
 refine s_apT Form.row (fun y => Form.row_len y) hk3 yP35 ?_
 refine s_as ?_
 refine zf (zd (zb (zb (za ?_))))
 refine s_as ?_
 refine zf (zd (zl ?_))
 refine zhl 0 14 5020 (by conv => lhs; whnf) (by conv => lhs; whnf) rfl ?_
 refine zbP [0, 7, 15, 16, 17, 18, 19, 20, 21, 22, 23, 24, 25, 26, 27, 28, 29] [5020] [12029] [5020] (fun a : Nat × (List Form) × Int => a.1) (fun a : Nat × (List Form) × Int => [(0, .ar 5020), (7, .t (.sc (.int .i64 a.2.2)))]) (fun a : Nat × (List Form) × Int => [(5020, .arr (a.2.1.map Form.row) 37 true)]) (fun a : Nat × (List Form) × Int => a.1 ≤ fu ∧ zaA a.1 x2 x3 a.2.1 a.2.2 = some r ∧ 0 ≤ a.2.2) (fu, (x1 ++ [x2]), 0) ⟨Nat.le_refl _, F3, by simp⟩ (by rfl) (by rfl) (fun _ => rfl) (zbj (by conv => lhs; whnf) (by rfl) (zbj (by conv => lhs; whnf) (by rfl) zc5)) (zaj (by conv => lhs; whnf) (by rfl) zcz) (zeG hC rfl) (by repeat (first | exact zby rfl | refine zb2 rfl ?_ | refine zaT rfl ?_)) (by repeat (first | exact zcw | exact zbD rfl | refine zb3 rfl ?_ | refine zaU rfl ?_)) ?_
 clear F3
 rintro ⟨fu, g4, g5⟩ ⟨hl6, F4, hn_g5⟩
 dsimp only at hl6 F4 hn_g5 ⊢
 obtain _ | fu := fu
 · rw [zaA] at F4; cases F4
 rw [zaA] at F4
 refine zb (zb (za ?_))
 refine s_mv ?_
 refine s_fa zZ ?_
 refine zp yA35 ?_
 refine zE yU35 ?_
 refine s_lt ?_
 refine zf (zd ?_)
 refine zn F4 ?_ ?_ <;> intro C7 F5
 refine zG 17 (fun B8 => ?_)
 refine zi (zd (zb (zl (za ?_))))
 refine s_mv ?_
 refine s_fa zZ ?_
 refine zp yA35 ?_
 refine s_mv ?_
 obtain ⟨v9, V9, F6⟩ := zc F5
 refine zL Form.row V9 (Form.row_eq _) yE35 ?_
 refine zag yA37 yS37 ?_
 refine s_mv ?_
 obtain ⟨v10, V10, F7⟩ := zc F6
 refine zQ [(9300, 5020), (9200, 12029)] [] _ _ (ih_m_spec_l4Vars fu (by omega) _ _ _ _ V10) ?_
 refine s_as ?_
 refine zf (z6 (zd (za ?_)))
 refine s_mv ?_
 refine zI (zak C7 B8 hn_g5) ?_
 refine s_as ?_
 refine zf ?_
 exact s_rn (fu, v10, (g5 + 1)) ⟨by first | omega | (dsimp only; omega), F7, by first | omega | (dsimp only; omega)⟩ [(5020, 12029)]
 refine zB (zw (zr (zx (zd (zb (za ?_))))))
 refine s_mv ?_
 refine s_as ?_
 refine zf (zd ?_)
 refine zhl 6 5020 9200 (by conv => lhs; whnf) (by conv => lhs; whnf) rfl ?_
 refine zh (zm ?_)
 cases F5
 exact zk _ [] Tryz.results83
 refine zi (zd (zb (zb (za ?_))))
 refine s_as ?_
 refine zf (zd (zl ?_))
 refine zhl 0 9300 5040 (by conv => lhs; whnf) (by conv => lhs; whnf) rfl ?_
 refine zbP [0, 7, 15, 16, 17, 18, 19, 20, 21, 22, 23, 24, 25, 26, 27, 28, 29] [5040] [12029] [5040] (fun a : Nat × (List Form) × Int => a.1) (fun a : Nat × (List Form) × Int => [(0, .ar 5040), (7, .t (.sc (.int .i64 a.2.2)))]) (fun a : Nat × (List Form) × Int => [(5040, .arr (a.2.1.map Form.row) 37 true)]) (fun a : Nat × (List Form) × Int => a.1 ≤ fu ∧ zaA a.1 x2 x3 a.2.1 a.2.2 = some r ∧ 0 ≤ a.2.2) (fu, x1, 0) ⟨Nat.le_refl _, F2, by simp⟩ (by rfl) (by rfl) (fun _ => rfl) (zbj (by conv => lhs; whnf) (by rfl) (zbj (by conv => lhs; whnf) (by rfl) zc5)) (zaj (by conv => lhs; whnf) (by rfl) zcz) (zeG hC rfl) (by repeat (first | exact zby rfl | refine zb2 rfl ?_ | refine zaT rfl ?_)) (by repeat (first | exact zcw | exact zbD rfl | refine zb3 rfl ?_ | refine zaU rfl ?_)) ?_
 clear F2
 rintro ⟨fu, g11, g12⟩ ⟨hl13, F3, hn_g12⟩
 dsimp only at hl13 F3 hn_g12 ⊢
 obtain _ | fu := fu
 · rw [zaA] at F3; cases F3
 rw [zaA] at F3
 refine zb (zb (za ?_))
 refine s_mv ?_
 refine s_fa zZ ?_
 refine zp yA35 ?_
 refine zE yU35 ?_
 refine s_lt ?_
 refine zf (zd ?_)
 refine zn F3 ?_ ?_ <;> intro C14 F4
 refine zG 17 (fun B15 => ?_)
 refine zi (zd (zb (zl (za ?_))))
 refine s_mv ?_
 refine s_fa zZ ?_
 refine zp yA35 ?_
 refine s_mv ?_
 obtain ⟨v16, V16, F5⟩ := zc F4
 refine zL Form.row V16 (Form.row_eq _) yE35 ?_
 refine zag yA37 yS37 ?_
 refine s_mv ?_
 obtain ⟨v17, V17, F6⟩ := zc F5
 refine zQ [(9300, 5040), (9200, 12029)] [] _ _ (ih_m_spec_l4Vars fu (by omega) _ _ _ _ V17) ?_
 refine s_as ?_
 refine zf (z6 (zd (za ?_)))
 refine s_mv ?_
 refine zI (zak C14 B15 hn_g12) ?_
 refine s_as ?_
 refine zf ?_
 exact s_rn (fu, v17, (g12 + 1)) ⟨by first | omega | (dsimp only; omega), F6, by first | omega | (dsimp only; omega)⟩ [(5040, 12029)]
 refine zB (zw (zr (zx (zd (zb (za ?_))))))
 refine s_mv ?_
 refine s_as ?_
 refine zf (zd ?_)
 refine zhl 6 5040 9200 (by conv => lhs; whnf) (by conv => lhs; whnf) rfl ?_
 refine zh (zm ?_)
 cases F4
 exact zk _ [] Tryz.results83
theorem m_spec_l4Vars_all (fuel : Nat) : zfa fuel := by
 induction fuel using Nat.strongRecOn with
 | _ N ih =>
   cases N with
   | zero => exact (by intro x1 x2 x3 r h; rw [zdf] at h; cases h)
   | succ fu => exact m_spec_l4Vars_st fu (fun k hk => (ih k (by omega)))
theorem m_spec_l4Vars_ok (fuel : Nat) : zfa fuel := (m_spec_l4Vars_all fuel)
def zeq (fuel : Nat) : Prop := ∀ (x1 : (List Int)) (x2 : Form) (x3 : (List Form)) (x4 : Int) (r : (List Int)), zbm fuel x1 x2 x3 x4 = some r → AC Tryz.prog 85 [.ar 9300, .ag [.t (.sc (.int .i64 x2.kind)), .t (.sc (.str x2.name)), .t (.sc (.int .i64 x2.n)), .t (.sl (x2.scopes.map rI)), .t (.sl (x2.kids.map Form.row))], .t (.sl (x3.map Form.row)), .t (.sc (.int .i64 x4))] (objs [(9300, .arr (x1.map rI) 3 true)]) (.ar 9200) (objs [(9300, .dead), (9200, .arr (r.map rI) 3 true)])
theorem m_spec_l4Depths_st (fu : Nat) (ih_m_spec_l4Depths : ∀ k, k ≤ fu → zeq k) : zeq (fu + 1) := by
 intro x1 x2 x3 x4 r F0
 rw [zbm] at F0
 refine AC_i [.ar 9200] Tryz.func85 rfl Tryz.ntmps85 ?_
 intro C hC
 refine zb (za ?_)
 refine zaF ?_
 refine s_as ?_
 refine zf (zd (zb (zb (za ?_))))
 refine zad yA37 yS37 ?_
 refine s_mv ?_
 obtain ⟨v1, V1, F1⟩ := zc F0
 refine zz [] (m_spec_l4Var_ok fu _ _ _ V1) ?_
 refine zf (zd ?_)
 refine zn F1 ?_ ?_ <;> intro C2 F2
 refine za ?_
 refine s_mv ?_
 refine s_mv ?_
 refine s_bs rI [x4] yP23 yR3 ?_
 obtain ⟨hk3, F3⟩ := zaS F2
 refine s_apT rI (fun _ => rfl) hk3 yP23 ?_
 refine s_as ?_
 refine zf (zd (zb (zb (za ?_))))
 refine s_as ?_
 refine zf (zd (zl ?_))
 refine zhl 0 17 5020 (by conv => lhs; whnf) (by conv => lhs; whnf) rfl ?_
 refine zbP [0, 9, 10, 18, 19, 20, 21, 22, 23, 24, 25, 26, 27, 28, 29, 30, 31, 32, 33, 34, 35, 36, 37, 38, 39, 40, 41, 42, 43, 44, 45, 46, 47, 48, 49, 50, 51] [5020] [12051] [5020] (fun a : Nat × (List Int) × Int => a.1) (fun a : Nat × (List Int) × Int => [(0, .ar 5020), (9, .t (.sc (.int .i64 a.2.2)))]) (fun a : Nat × (List Int) × Int => [(5020, .arr (a.2.1.map rI) 3 true)]) (fun a : Nat × (List Int) × Int => a.1 ≤ fu ∧ zX a.1 x2 x3 x4 a.2.1 a.2.2 = some r ∧ 0 ≤ a.2.2) (fu, (x1 ++ [x4]), 0) ⟨Nat.le_refl _, F3, by simp⟩ (by rfl) (by rfl) (fun _ => rfl) (zbj (by conv => lhs; whnf) (by rfl) (zbj (by conv => lhs; whnf) (by rfl) zc5)) (zaj (by conv => lhs; whnf) (by rfl) zcz) (zeG hC rfl) (by repeat (first | exact zby rfl | refine zb2 rfl ?_ | refine zaT rfl ?_)) (by repeat (first | exact zcw | exact zbD rfl | refine zb3 rfl ?_ | refine zaU rfl ?_)) ?_
 clear F3
 rintro ⟨fu, g4, g5⟩ ⟨hl6, F4, hn_g5⟩
 dsimp only at hl6 F4 hn_g5 ⊢
 obtain _ | fu := fu
 · rw [zX] at F4; cases F4
 rw [zX] at F4
 refine zb (zb (za ?_))
 refine s_mv ?_
 refine s_fa zZ ?_
 refine zp yA35 ?_
 refine zE yU35 ?_
 refine s_lt ?_
 refine zf (zd ?_)
 refine zn F4 ?_ ?_ <;> intro C7 F5
 refine zG 20 (fun B8 => ?_)
 refine zi (zd (zb (zl (zb (za ?_)))))
 refine s_mv ?_
 refine s_as ?_
 refine zf (zd (zb (zb (za ?_))))
 refine s_mv ?_
 refine zI (zak C7 B8 hn_g5) ?_
 refine s_fa zZ ?_
 refine zp yA35 ?_
 refine zE yU35 ?_
 refine s_lt ?_
 refine s_mv ?_
 refine zy _ 32 F5 ?_ ?_ <;> intro C9 F6
 refine s_fa zZ ?_
 refine zp yA35 ?_
 refine s_mv ?_
 refine zI (zak C7 B8 hn_g5) ?_
 obtain ⟨v10, V10, F7⟩ := zc F6
 refine zL Form.row V10 (Form.row_eq _) yE35 ?_
 refine zag yA37 yS37 ?_
 obtain ⟨v11, V11, F8⟩ := zc F7
 refine zz [] (zbS fu _ _ V11) ?_
 refine zC ?_
 refine zf (zd ?_)
 refine zn F8 ?_ ?_ <;> intro C12 F9
 refine za ?_
 refine s_mv ?_
 refine zI rfl ?_
 refine s_as ?_
 refine zf (zd (za ?_))
 refine s_mv ?_
 refine s_fa zZ ?_
 refine zp yA35 ?_
 refine s_mv ?_
 obtain ⟨v13, V13, F10⟩ := zc F9
 refine zL Form.row V13 (Form.row_eq _) yE35 ?_
 refine zag yA37 yS37 ?_
 refine s_mv ?_
 refine s_mv ?_
 obtain ⟨v14, V14, F11⟩ := zc F10
 refine zQ [(9300, 5020), (9200, 12051)] [] _ _ (ih_m_spec_l4Depths fu (by omega) _ _ _ _ _ V14) ?_
 refine s_as ?_
 refine zf (z6 (zd (za ?_)))
 refine s_mv ?_
 refine zI (zak C7 B8 hn_g5) ?_
 refine s_as ?_
 refine zf ?_
 exact s_rn (fu, v14, (g5 + 1)) ⟨by first | omega | (dsimp only; omega), F11, by first | omega | (dsimp only; omega)⟩ [(5020, 12051)]
 refine zi (zd (za ?_))
 refine s_mv ?_
 refine s_fa zZ ?_
 refine zp yA35 ?_
 refine s_mv ?_
 obtain ⟨v15, V15, F10⟩ := zc F9
 refine zL Form.row V15 (Form.row_eq _) yE35 ?_
 refine zag yA37 yS37 ?_
 refine s_mv ?_
 refine s_mv ?_
 obtain ⟨v16, V16, F11⟩ := zc F10
 refine zQ [(9300, 5020), (9200, 12051)] [] _ _ (ih_m_spec_l4Depths fu (by omega) _ _ _ _ _ V16) ?_
 refine s_as ?_
 refine zf (z6 (zd (za ?_)))
 refine s_mv ?_
 refine zI (zak C7 B8 hn_g5) ?_
 refine s_as ?_
 refine zf ?_
 exact s_rn (fu, v16, (g5 + 1)) ⟨by first | omega | (dsimp only; omega), F11, by first | omega | (dsimp only; omega)⟩ [(5020, 12051)]
 iterate 7 refine r_no rfl ?_
 refine zF ?_
 refine zf (zd (zci rfl (zi (zd (za ?_)))))
 refine s_mv ?_
 refine s_fa zZ ?_
 refine zp yA35 ?_
 refine s_mv ?_
 obtain ⟨v17, V17, F7⟩ := zc F6
 refine zL Form.row V17 (Form.row_eq _) yE35 ?_
 refine zag yA37 yS37 ?_
 refine s_mv ?_
 refine s_mv ?_
 obtain ⟨v18, V18, F8⟩ := zc F7
 refine zQ [(9300, 5020), (9200, 12051)] [] _ _ (ih_m_spec_l4Depths fu (by omega) _ _ _ _ _ V18) ?_
 refine s_as ?_
 refine zf (z6 (zd (za ?_)))
 refine s_mv ?_
 refine zI (zak C7 B8 hn_g5) ?_
 refine s_as ?_
 refine zf ?_
 exact s_rn (fu, v18, (g5 + 1)) ⟨by first | omega | (dsimp only; omega), F8, by first | omega | (dsimp only; omega)⟩ [(5020, 12051)]
 refine zB (zw (zr (zx (zd (zb (za ?_))))))
 refine s_mv ?_
 refine s_as ?_
 refine zf (zd ?_)
 refine zhl 8 5020 9200 (by conv => lhs; whnf) (by conv => lhs; whnf) rfl ?_
 refine zh (zm ?_)
 cases F5
 exact zk _ [] Tryz.results85
 refine zi (zd (zb (zb (za ?_))))
 refine s_as ?_
 refine zf (zd (zl ?_))
 refine zhl 0 9300 5040 (by conv => lhs; whnf) (by conv => lhs; whnf) rfl ?_
 refine zbP [0, 9, 10, 18, 19, 20, 21, 22, 23, 24, 25, 26, 27, 28, 29, 30, 31, 32, 33, 34, 35, 36, 37, 38, 39, 40, 41, 42, 43, 44, 45, 46, 47, 48, 49, 50, 51] [5040] [12051] [5040] (fun a : Nat × (List Int) × Int => a.1) (fun a : Nat × (List Int) × Int => [(0, .ar 5040), (9, .t (.sc (.int .i64 a.2.2)))]) (fun a : Nat × (List Int) × Int => [(5040, .arr (a.2.1.map rI) 3 true)]) (fun a : Nat × (List Int) × Int => a.1 ≤ fu ∧ zX a.1 x2 x3 x4 a.2.1 a.2.2 = some r ∧ 0 ≤ a.2.2) (fu, x1, 0) ⟨Nat.le_refl _, F2, by simp⟩ (by rfl) (by rfl) (fun _ => rfl) (zbj (by conv => lhs; whnf) (by rfl) (zbj (by conv => lhs; whnf) (by rfl) zc5)) (zaj (by conv => lhs; whnf) (by rfl) zcz) (zeG hC rfl) (by repeat (first | exact zby rfl | refine zb2 rfl ?_ | refine zaT rfl ?_)) (by repeat (first | exact zcw | exact zbD rfl | refine zb3 rfl ?_ | refine zaU rfl ?_)) ?_
 clear F2
 rintro ⟨fu, g19, g20⟩ ⟨hl21, F3, hn_g20⟩
 dsimp only at hl21 F3 hn_g20 ⊢
 obtain _ | fu := fu
 · rw [zX] at F3; cases F3
 rw [zX] at F3
 refine zb (zb (za ?_))
 refine s_mv ?_
 refine s_fa zZ ?_
 refine zp yA35 ?_
 refine zE yU35 ?_
 refine s_lt ?_
 refine zf (zd ?_)
 refine zn F3 ?_ ?_ <;> intro C22 F4
 refine zG 20 (fun B23 => ?_)
 refine zi (zd (zb (zl (zb (za ?_)))))
 refine s_mv ?_
 refine s_as ?_
 refine zf (zd (zb (zb (za ?_))))
 refine s_mv ?_
 refine zI (zak C22 B23 hn_g20) ?_
 refine s_fa zZ ?_
 refine zp yA35 ?_
 refine zE yU35 ?_
 refine s_lt ?_
 refine s_mv ?_
 refine zy _ 32 F4 ?_ ?_ <;> intro C24 F5
 refine s_fa zZ ?_
 refine zp yA35 ?_
 refine s_mv ?_
 refine zI (zak C22 B23 hn_g20) ?_
 obtain ⟨v25, V25, F6⟩ := zc F5
 refine zL Form.row V25 (Form.row_eq _) yE35 ?_
 refine zag yA37 yS37 ?_
 obtain ⟨v26, V26, F7⟩ := zc F6
 refine zz [] (zbS fu _ _ V26) ?_
 refine zC ?_
 refine zf (zd ?_)
 refine zn F7 ?_ ?_ <;> intro C27 F8
 refine za ?_
 refine s_mv ?_
 refine zI rfl ?_
 refine s_as ?_
 refine zf (zd (za ?_))
 refine s_mv ?_
 refine s_fa zZ ?_
 refine zp yA35 ?_
 refine s_mv ?_
 obtain ⟨v28, V28, F9⟩ := zc F8
 refine zL Form.row V28 (Form.row_eq _) yE35 ?_
 refine zag yA37 yS37 ?_
 refine s_mv ?_
 refine s_mv ?_
 obtain ⟨v29, V29, F10⟩ := zc F9
 refine zQ [(9300, 5040), (9200, 12051)] [] _ _ (ih_m_spec_l4Depths fu (by omega) _ _ _ _ _ V29) ?_
 refine s_as ?_
 refine zf (z6 (zd (za ?_)))
 refine s_mv ?_
 refine zI (zak C22 B23 hn_g20) ?_
 refine s_as ?_
 refine zf ?_
 exact s_rn (fu, v29, (g20 + 1)) ⟨by first | omega | (dsimp only; omega), F10, by first | omega | (dsimp only; omega)⟩ [(5040, 12051)]
 refine zi (zd (za ?_))
 refine s_mv ?_
 refine s_fa zZ ?_
 refine zp yA35 ?_
 refine s_mv ?_
 obtain ⟨v30, V30, F9⟩ := zc F8
 refine zL Form.row V30 (Form.row_eq _) yE35 ?_
 refine zag yA37 yS37 ?_
 refine s_mv ?_
 refine s_mv ?_
 obtain ⟨v31, V31, F10⟩ := zc F9
 refine zQ [(9300, 5040), (9200, 12051)] [] _ _ (ih_m_spec_l4Depths fu (by omega) _ _ _ _ _ V31) ?_
 refine s_as ?_
 refine zf (z6 (zd (za ?_)))
 refine s_mv ?_
 refine zI (zak C22 B23 hn_g20) ?_
 refine s_as ?_
 refine zf ?_
 exact s_rn (fu, v31, (g20 + 1)) ⟨by first | omega | (dsimp only; omega), F10, by first | omega | (dsimp only; omega)⟩ [(5040, 12051)]
 iterate 7 refine r_no rfl ?_
 refine zF ?_
 refine zf (zd (zci rfl (zi (zd (za ?_)))))
 refine s_mv ?_
 refine s_fa zZ ?_
 refine zp yA35 ?_
 refine s_mv ?_
 obtain ⟨v32, V32, F6⟩ := zc F5
 refine zL Form.row V32 (Form.row_eq _) yE35 ?_
 refine zag yA37 yS37 ?_
 refine s_mv ?_
 refine s_mv ?_
 obtain ⟨v33, V33, F7⟩ := zc F6
 refine zQ [(9300, 5040), (9200, 12051)] [] _ _ (ih_m_spec_l4Depths fu (by omega) _ _ _ _ _ V33) ?_
 refine s_as ?_
 refine zf (z6 (zd (za ?_)))
 refine s_mv ?_
 refine zI (zak C22 B23 hn_g20) ?_
 refine s_as ?_
 refine zf ?_
 exact s_rn (fu, v33, (g20 + 1)) ⟨by first | omega | (dsimp only; omega), F7, by first | omega | (dsimp only; omega)⟩ [(5040, 12051)]
 refine zB (zw (zr (zx (zd (zb (za ?_))))))
 refine s_mv ?_
 refine s_as ?_
 refine zf (zd ?_)
 refine zhl 8 5040 9200 (by conv => lhs; whnf) (by conv => lhs; whnf) rfl ?_
 refine zh (zm ?_)
 cases F4
 exact zk _ [] Tryz.results85
end Go.Abs
