/- A part of the proof: what the functions that the law calls answer, as pure values. -/
import Derived.Test.YtcllpfmjggkpnaaGreatK73f09199af94
import Derived.Test.YtcllpfmjggkpnaaGreatKa15390ddf9b4
import Derived.Test.YtcllpfmjggkpnaaGreatK887eea50e27a
import Derived.Test.YtcllpfmjggkpnaaGreatK50fa35a3b9d2
import Derived.Test.YtcllpfmjggkpnaaGreatK98a493ba4651
set_option linter.unusedSimpArgs false
set_option linter.unusedVariables false
set_option maxRecDepth 100000
set_option maxHeartbeats 4000000
namespace Go.Abs
open Go.Proofs
theorem m_spec_l4Vars_all (fuel : Nat) : ze1 fuel := by
 induction fuel using Nat.strongRecOn with
 | _ N ih =>
   cases N with
   | zero => exact (by intro x1 x2 x3 r h; rw [zcK] at h; cases h)
   | succ fu => exact m_spec_l4Vars_st fu (fun k hk => (ih k (by omega)))
theorem m_spec_l4Vars_ok (fuel : Nat) : ze1 fuel := (m_spec_l4Vars_all fuel)
def zee (fuel : Nat) : Prop := ∀ (x1 : (List Int)) (x2 : Form) (x3 : (List Form)) (x4 : Int) (r : (List Int)), za7 fuel x1 x2 x3 x4 = some r → AC Tryz.prog 70 [.ar 9300, .ag [.t (.sc (.int .i64 x2.kind)), .t (.sc (.str x2.name)), .t (.sc (.int .i64 x2.n)), .t (.sl (x2.scopes.map rI)), .t (.sl (x2.kids.map Form.row))], .t (.sl (x3.map Form.row)), .t (.sc (.int .i64 x4))] (objs [(9300, .arr (x1.map rI) 3 true)]) (.ar 9200) (objs [(9300, .dead), (9200, .arr (r.map rI) 3 true)])
theorem m_spec_l4Depths_st (fu : Nat) (ih_m_spec_l4Depths : ∀ k, k ≤ fu → zee k) : zee (fu + 1) := by
 intro x1 x2 x3 x4 r F0
 rw [za7] at F0
 refine AC_i [.ar 9200] Tryz.func70 rfl Tryz.ntmps70 ?_
 intro C hC
 refine zb (za ?_)
 refine zbz ?_
 refine s_as ?_
 refine zf (zd (zb (zb (za ?_))))
 refine zI yA27 yS27 ?_
 refine s_mv ?_
 obtain ⟨v1, V1, F1⟩ := zc F0
 refine zx [] (m_spec_l4Var_ok fu _ _ _ V1) ?_
 refine zf (zd ?_)
 refine zo F1 ?_ ?_ <;> intro C2 F2
 refine za ?_
 refine s_mv ?_
 refine s_mv ?_
 refine s_bs rI [x4] yP24 yR3 ?_
 obtain ⟨hk3, F3⟩ := zai F2
 refine zfo rI (fun _ => rfl) hk3 yP24 ?_
 refine s_as ?_
 refine zf (zd (zb (zb (za ?_))))
 refine s_as ?_
 refine zf (zd (zl ?_))
 refine zcy 0 17 5020 (by conv => lhs; whnf) (by conv => lhs; whnf) rfl ?_
 refine zax [0, 9, 10, 18, 19, 20, 21, 22, 23, 24, 25, 26, 27, 28, 29, 30, 31, 32, 33, 34, 35, 36, 37, 38, 39, 40, 41, 42, 43, 44, 45, 46, 47, 48, 49, 50, 51] [5020] [12051] [5020] (fun a : Nat × (List Int) × Int => a.1) (fun a : Nat × (List Int) × Int => [(0, .ar 5020), (9, .t (.sc (.int .i64 a.2.2)))]) (fun a : Nat × (List Int) × Int => [(5020, .arr (a.2.1.map rI) 3 true)]) (fun a : Nat × (List Int) × Int => a.1 ≤ fu ∧ zV a.1 x2 x3 x4 a.2.1 a.2.2 = some r ∧ 0 ≤ a.2.2) (fu, (x1 ++ [x4]), 0) ⟨Nat.le_refl _, F3, by simp⟩ (by rfl) (by rfl) (fun _ => rfl) (zL (by conv => lhs; whnf) (by rfl) (zL (by conv => lhs; whnf) (by rfl) zbx)) (zP (by conv => lhs; whnf) (by rfl) zbm) (zcx hC rfl) (by repeat (first | exact zak rfl | refine zaG rfl ?_ | refine zZ rfl ?_)) (by repeat (first | exact za3 | exact zas rfl | refine zaH rfl ?_ | refine z6 rfl ?_)) ?_
 clear F3
 rintro ⟨fu, g4, g5⟩ ⟨hl6, F4, hn_g5⟩
 dsimp only at hl6 F4 hn_g5 ⊢
 obtain _ | fu := fu
 · rw [zV] at F4; cases F4
 rw [zV] at F4
 refine zb (zb (za ?_))
 refine s_mv ?_
 refine s_fa zR ?_
 refine zv yA25 ?_
 refine zD yU25 ?_
 refine s_lt ?_
 refine zf (zd ?_)
 refine zo F4 ?_ ?_ <;> intro C7 F5
 refine zT 20 (fun B8 => ?_)
 refine zi (zd (zb (zl (zb (za ?_)))))
 refine s_mv ?_
 refine s_as ?_
 refine zf (zd (zb (zb (za ?_))))
 refine s_mv ?_
 refine zQ (zbg C7 B8 hn_g5) ?_
 refine s_fa zR ?_
 refine zv yA25 ?_
 refine zD yU25 ?_
 refine s_lt ?_
 refine s_mv ?_
 refine zp _ 32 F5 ?_ ?_ <;> intro C9 F6
 refine s_fa zR ?_
 refine zv yA25 ?_
 refine s_mv ?_
 refine zQ (zbg C7 B8 hn_g5) ?_
 obtain ⟨v10, V10, F7⟩ := zc F6
 refine z7 Form.row V10 (Form.row_eq _) yE25 ?_
 refine za1 yA27 yS27 ?_
 obtain ⟨v11, V11, F8⟩ := zc F7
 refine zx [] (zcE fu _ _ V11) ?_
 refine zz ?_
 refine zf (zd ?_)
 refine zo F8 ?_ ?_ <;> intro C12 F9
 refine za ?_
 refine s_mv ?_
 refine zQ rfl ?_
 refine s_as ?_
 refine zf (zd (za ?_))
 refine s_mv ?_
 refine s_fa zR ?_
 refine zv yA25 ?_
 refine s_mv ?_
 obtain ⟨v13, V13, F10⟩ := zc F9
 refine z7 Form.row V13 (Form.row_eq _) yE25 ?_
 refine za1 yA27 yS27 ?_
 refine s_mv ?_
 refine s_mv ?_
 obtain ⟨v14, V14, F11⟩ := zc F10
 refine zN [(9300, 5020), (9200, 12051)] [] _ _ (ih_m_spec_l4Depths fu (by omega) _ _ _ _ _ V14) ?_
 refine s_as ?_
 refine zf (zX (zd (za ?_)))
 refine s_mv ?_
 refine zQ (zbg C7 B8 hn_g5) ?_
 refine s_as ?_
 refine zf ?_
 exact s_rn (fu, v14, (g5 + 1)) ⟨by first | omega | (dsimp only; omega), F11, by first | omega | (dsimp only; omega)⟩ [(5020, 12051)]
 refine zi (zd (za ?_))
 refine s_mv ?_
 refine s_fa zR ?_
 refine zv yA25 ?_
 refine s_mv ?_
 obtain ⟨v15, V15, F10⟩ := zc F9
 refine z7 Form.row V15 (Form.row_eq _) yE25 ?_
 refine za1 yA27 yS27 ?_
 refine s_mv ?_
 refine s_mv ?_
 obtain ⟨v16, V16, F11⟩ := zc F10
 refine zN [(9300, 5020), (9200, 12051)] [] _ _ (ih_m_spec_l4Depths fu (by omega) _ _ _ _ _ V16) ?_
 refine s_as ?_
 refine zf (zX (zd (za ?_)))
 refine s_mv ?_
 refine zQ (zbg C7 B8 hn_g5) ?_
 refine s_as ?_
 refine zf ?_
 exact s_rn (fu, v16, (g5 + 1)) ⟨by first | omega | (dsimp only; omega), F11, by first | omega | (dsimp only; omega)⟩ [(5020, 12051)]
 iterate 7 refine r_no rfl ?_
 refine zy ?_
 refine zf (zd (zbn rfl (zi (zd (za ?_)))))
 refine s_mv ?_
 refine s_fa zR ?_
 refine zv yA25 ?_
 refine s_mv ?_
 obtain ⟨v17, V17, F7⟩ := zc F6
 refine z7 Form.row V17 (Form.row_eq _) yE25 ?_
 refine za1 yA27 yS27 ?_
 refine s_mv ?_
 refine s_mv ?_
 obtain ⟨v18, V18, F8⟩ := zc F7
 refine zN [(9300, 5020), (9200, 12051)] [] _ _ (ih_m_spec_l4Depths fu (by omega) _ _ _ _ _ V18) ?_
 refine s_as ?_
 refine zf (zX (zd (za ?_)))
 refine s_mv ?_
 refine zQ (zbg C7 B8 hn_g5) ?_
 refine s_as ?_
 refine zf ?_
 exact s_rn (fu, v18, (g5 + 1)) ⟨by first | omega | (dsimp only; omega), F8, by first | omega | (dsimp only; omega)⟩ [(5020, 12051)]
 refine zC (zr (zq (zu (zd (zb (za ?_))))))
 refine s_mv ?_
 refine s_as ?_
 refine zf (zd ?_)
 refine zcy 8 5020 9200 (by conv => lhs; whnf) (by conv => lhs; whnf) rfl ?_
 refine zh (zm ?_)
 cases F5
 exact zk _ [] Tryz.results70
 refine zi (zd (zb (zb (za ?_))))
 refine s_as ?_
 refine zf (zd (zl ?_))
 refine zcy 0 9300 5040 (by conv => lhs; whnf) (by conv => lhs; whnf) rfl ?_
 refine zax [0, 9, 10, 18, 19, 20, 21, 22, 23, 24, 25, 26, 27, 28, 29, 30, 31, 32, 33, 34, 35, 36, 37, 38, 39, 40, 41, 42, 43, 44, 45, 46, 47, 48, 49, 50, 51] [5040] [12051] [5040] (fun a : Nat × (List Int) × Int => a.1) (fun a : Nat × (List Int) × Int => [(0, .ar 5040), (9, .t (.sc (.int .i64 a.2.2)))]) (fun a : Nat × (List Int) × Int => [(5040, .arr (a.2.1.map rI) 3 true)]) (fun a : Nat × (List Int) × Int => a.1 ≤ fu ∧ zV a.1 x2 x3 x4 a.2.1 a.2.2 = some r ∧ 0 ≤ a.2.2) (fu, x1, 0) ⟨Nat.le_refl _, F2, by simp⟩ (by rfl) (by rfl) (fun _ => rfl) (zL (by conv => lhs; whnf) (by rfl) (zL (by conv => lhs; whnf) (by rfl) zbx)) (zP (by conv => lhs; whnf) (by rfl) zbm) (zcx hC rfl) (by repeat (first | exact zak rfl | refine zaG rfl ?_ | refine zZ rfl ?_)) (by repeat (first | exact za3 | exact zas rfl | refine zaH rfl ?_ | refine z6 rfl ?_)) ?_
 clear F2
 rintro ⟨fu, g19, g20⟩ ⟨hl21, F3, hn_g20⟩
 dsimp only at hl21 F3 hn_g20 ⊢
 obtain _ | fu := fu
 · rw [zV] at F3; cases F3
 rw [zV] at F3
 refine zb (zb (za ?_))
 refine s_mv ?_
 refine s_fa zR ?_
 refine zv yA25 ?_
 refine zD yU25 ?_
 refine s_lt ?_
 refine zf (zd ?_)
 refine zo F3 ?_ ?_ <;> intro C22 F4
 refine zT 20 (fun B23 => ?_)
 refine zi (zd (zb (zl (zb (za ?_)))))
 refine s_mv ?_
 refine s_as ?_
 refine zf (zd (zb (zb (za ?_))))
 refine s_mv ?_
 refine zQ (zbg C22 B23 hn_g20) ?_
 refine s_fa zR ?_
 refine zv yA25 ?_
 refine zD yU25 ?_
 refine s_lt ?_
 refine s_mv ?_
 refine zp _ 32 F4 ?_ ?_ <;> intro C24 F5
 refine s_fa zR ?_
 refine zv yA25 ?_
 refine s_mv ?_
 refine zQ (zbg C22 B23 hn_g20) ?_
 obtain ⟨v25, V25, F6⟩ := zc F5
 refine z7 Form.row V25 (Form.row_eq _) yE25 ?_
 refine za1 yA27 yS27 ?_
 obtain ⟨v26, V26, F7⟩ := zc F6
 refine zx [] (zcE fu _ _ V26) ?_
 refine zz ?_
 refine zf (zd ?_)
 refine zo F7 ?_ ?_ <;> intro C27 F8
 refine za ?_
 refine s_mv ?_
 refine zQ rfl ?_
 refine s_as ?_
 refine zf (zd (za ?_))
 refine s_mv ?_
 refine s_fa zR ?_
 refine zv yA25 ?_
 refine s_mv ?_
 obtain ⟨v28, V28, F9⟩ := zc F8
 refine z7 Form.row V28 (Form.row_eq _) yE25 ?_
 refine za1 yA27 yS27 ?_
 refine s_mv ?_
 refine s_mv ?_
 obtain ⟨v29, V29, F10⟩ := zc F9
 refine zN [(9300, 5040), (9200, 12051)] [] _ _ (ih_m_spec_l4Depths fu (by omega) _ _ _ _ _ V29) ?_
 refine s_as ?_
 refine zf (zX (zd (za ?_)))
 refine s_mv ?_
 refine zQ (zbg C22 B23 hn_g20) ?_
 refine s_as ?_
 refine zf ?_
 exact s_rn (fu, v29, (g20 + 1)) ⟨by first | omega | (dsimp only; omega), F10, by first | omega | (dsimp only; omega)⟩ [(5040, 12051)]
 refine zi (zd (za ?_))
 refine s_mv ?_
 refine s_fa zR ?_
 refine zv yA25 ?_
 refine s_mv ?_
 obtain ⟨v30, V30, F9⟩ := zc F8
 refine z7 Form.row V30 (Form.row_eq _) yE25 ?_
 refine za1 yA27 yS27 ?_
 refine s_mv ?_
 refine s_mv ?_
 obtain ⟨v31, V31, F10⟩ := zc F9
 refine zN [(9300, 5040), (9200, 12051)] [] _ _ (ih_m_spec_l4Depths fu (by omega) _ _ _ _ _ V31) ?_
 refine s_as ?_
 refine zf (zX (zd (za ?_)))
 refine s_mv ?_
 refine zQ (zbg C22 B23 hn_g20) ?_
 refine s_as ?_
 refine zf ?_
 exact s_rn (fu, v31, (g20 + 1)) ⟨by first | omega | (dsimp only; omega), F10, by first | omega | (dsimp only; omega)⟩ [(5040, 12051)]
 iterate 7 refine r_no rfl ?_
 refine zy ?_
 refine zf (zd (zbn rfl (zi (zd (za ?_)))))
 refine s_mv ?_
 refine s_fa zR ?_
 refine zv yA25 ?_
 refine s_mv ?_
 obtain ⟨v32, V32, F6⟩ := zc F5
 refine z7 Form.row V32 (Form.row_eq _) yE25 ?_
 refine za1 yA27 yS27 ?_
 refine s_mv ?_
 refine s_mv ?_
 obtain ⟨v33, V33, F7⟩ := zc F6
 refine zN [(9300, 5040), (9200, 12051)] [] _ _ (ih_m_spec_l4Depths fu (by omega) _ _ _ _ _ V33) ?_
 refine s_as ?_
 refine zf (zX (zd (za ?_)))
 refine s_mv ?_
 refine zQ (zbg C22 B23 hn_g20) ?_
 refine s_as ?_
 refine zf ?_
 exact s_rn (fu, v33, (g20 + 1)) ⟨by first | omega | (dsimp only; omega), F7, by first | omega | (dsimp only; omega)⟩ [(5040, 12051)]
 refine zC (zr (zq (zu (zd (zb (za ?_))))))
 refine s_mv ?_
 refine s_as ?_
 refine zf (zd ?_)
 refine zcy 8 5040 9200 (by conv => lhs; whnf) (by conv => lhs; whnf) rfl ?_
 refine zh (zm ?_)
 cases F4
 exact zk _ [] Tryz.results70
theorem m_spec_l4Depths_all (fuel : Nat) : zee fuel := by
 induction fuel using Nat.strongRecOn with
 | _ N ih =>
   cases N with
   | zero => exact (by intro x1 x2 x3 x4 r h; rw [za7] at h; cases h)
   | succ fu => exact m_spec_l4Depths_st fu (fun k hk => (ih k (by omega)))
theorem zgG (fuel : Nat) : zee fuel := (m_spec_l4Depths_all fuel)
def m_spec_l4Is_AC (fuel : Nat) : Prop := ∀ (x1 : Form) (x2 : (List Form)) (r : Bool), zgr fuel x1 x2 = some r → AC Tryz.prog 23 [.ag [.t (.sc (.int .i64 x1.kind)), .t (.sc (.str x1.name)), .t (.sc (.int .i64 x1.n)), .t (.sl (x1.scopes.map rI)), .t (.sl (x1.kids.map Form.row))], .t (.sl (x2.map Form.row))] noOb (.t (.sc (.bool r))) noOb
theorem m_spec_l4Is_ok (fuel : Nat) : m_spec_l4Is_AC fuel := by
 intro x1 x2 r F0
 unfold zgr at F0
 refine AC_i [.t (.sc (.bool r))] Tryz.func23 rfl Tryz.ntmps23 ?_
 intro C hC
 refine zb (za ?_)
 refine zbz ?_
 refine s_as ?_
 refine zf (zd (zb (zb (za ?_))))
 refine zI yA27 yS27 ?_
 obtain ⟨v1, V1, F1⟩ := zc F0
 refine zx [] (zdJ fuel _ _ V1) ?_
 refine zby ?_
 refine s_mv ?_
 refine zp _ 12 F1 ?_ ?_ <;> intro C2 F2
 iterate 3 refine r_no rfl ?_
 refine zz ?_
 refine s_mv ?_
 iterate 3 refine r_no rfl ?_
 refine zz ?_
 refine zf (zd (zM rfl (zb (za ?_))))
 refine s_as ?_
 refine zf (zd (zh (zg (zm ?_))))
 cases F2
 exact zk [] [] Tryz.results23
 refine s_mv ?_
 obtain ⟨v3, V3, F3⟩ := zc F2
 refine zx [] (m_spec_l4Literals_ok fuel _ _ V3) ?_
 refine zby ?_
 refine zy ?_
 refine s_mv ?_
 refine zp _ 17 F3 ?_ ?_ <;> intro C4 F4
 iterate 3 refine r_no rfl ?_
 refine zz ?_
 refine zf (zd (zM rfl (zb (za ?_))))
 refine s_as ?_
 refine zf (zd (zh (zg (zm ?_))))
 cases F4
 exact zk [] [] Tryz.results23
 refine zI yA27 yS27 ?_
 obtain ⟨v5, V5, F5⟩ := zc F4
 refine zx [] (m_spec_l4Shape_ok fuel _ _ V5) ?_
 refine zby ?_
 refine zy ?_
 refine zf (zd ?_)
 refine zo F5 ?_ ?_ <;> intro C6 F6
 refine zb (za ?_)
 refine s_as ?_
 refine zf (zd (zh (zg (zm ?_))))
 cases F6
 exact zk [] [] Tryz.results23
 refine zi (zd (zb (za ?_)))
 refine s_bs Form.row ([] : List Form) yP25 yR27 ?_
 refine zI yA27 yS27 ?_
 refine s_mv ?_
 obtain ⟨v7, V7, F7⟩ := zc F6
 refine zN [(9300, 22), (9200, 12025)] [] _ _ (m_spec_l4Vars_ok fuel _ _ _ _ V7) ?_
 refine s_as ?_
 refine zf (zd (zb (zb (za ?_))))
 refine s_as ?_
 refine zf (zd (zl ?_))
 refine awp_frz 12025 (by conv => lhs; whnf) ?_
 refine zbu (β := Int × (List Form)) [4, 6, 26, 27, 28, 29, 30, 31, 32, 33, 34, 35, 36, 37, 38, 39] [12025] [] (fun a => [(6, .t (.sc (.int .i64 a.2.1)))]) (fun a => [(12025, .arr (a.2.2.map Form.row) 27 false)]) (fun a => a.1 ≤ fuel ∧ zcP a.1 x1 x2 a.2.1 a.2.2 = some r ∧ 0 ≤ a.2.1) (fuel, 0, v7) ⟨Nat.le_refl _, F7, by simp⟩ ?_
 clear F7
 rintro ⟨fu, g8, g9⟩ ⟨hl10, F8, hn_g8⟩
 dsimp only at hl10 F8 hn_g8 ⊢
 obtain _ | fu := fu
 · rw [zcP] at F8; cases F8
 rw [zcP] at F8
 refine zb (zb (za ?_))
 refine s_mv ?_
 refine s_mv ?_
 refine zgq yU25 ?_
 refine s_lt ?_
 refine zf (zd ?_)
 refine zo F8 ?_ ?_ <;> intro C11 F9
 refine awp_lenA 5 12025 (fun B12 => ?_)
 refine zi (zd (zb (zl (zb ?_))))
 refine zW yMix (by kernel_rfl) ?_
 refine zfK ?_
 refine s_mv ?_
 obtain ⟨v13, V13, F10⟩ := zc F9
 refine s_sl01 Form.row (fun y => Form.row_len y) V13 yU25 yE25 ?_
 refine zfK ?_
 refine s_mv ?_
 obtain ⟨v14, V14, F11⟩ := zc F10
 refine s_ixA Form.row V14 yE25 ?_
 refine s_lAN Form.row V14 (Form.row_eq _) yA27 yS27 ?_
 obtain ⟨v15, V15, F12⟩ := zc F11
 refine zx [] (zfY fu _ _ _ V15) ?_
 refine zaA (by kernel_rfl) ?_
 refine zd ?_
 refine zo F12 ?_ ?_ <;> intro C16 F13
 refine zb (za ?_)
 refine s_as ?_
 refine zf (zd (zh (zj (zg (zw (zj (zg (zm ?_))))))))
 cases F13
 exact zk [] [] Tryz.results23
 refine zi (zX (zd (za ?_)))
 refine s_mv ?_
 refine zQ (zbg C11 B12 hn_g8) ?_
 refine s_as ?_
 refine zf ?_
 exact s_rn (fu, (g8 + 1), g9) ⟨by first | omega | (dsimp only; omega), F13, by first | omega | (dsimp only; omega)⟩
 refine zC (zr (zq (zu (zd (zb (za ?_))))))
 refine s_bs rI ([] : List Int) yP24 yR3 ?_
 refine zI yA27 yS27 ?_
 refine s_mv ?_
 obtain ⟨v17, V17, F10⟩ := zc F9
 refine zN [(9300, 40), (9200, 12043)] [] _ _ (zgG fu _ _ _ _ _ V17) ?_
 refine s_as ?_
 refine zf (zd (zb (zb (za ?_))))
 refine s_as ?_
 refine zf (zd (zl ?_))
 refine zbu (β := Int) [4, 8, 44, 45, 46, 47, 48, 49, 50, 51, 52, 53, 54] [] [] (fun a => [(8, .t (.sc (.int .i64 a.2)))]) (fun a => []) (fun a => a.1 ≤ fu ∧ zcO a.1 g9 v17 a.2 = some r ∧ 0 ≤ a.2) (fu, 0) ⟨Nat.le_refl _, F10, by simp⟩ ?_
 clear F10
 rintro ⟨fu, g18⟩ ⟨hl19, F11, hn_g18⟩
 dsimp only at hl19 F11 hn_g18 ⊢
 obtain _ | fu := fu
 · rw [zcO] at F11; cases F11
 rw [zcO] at F11
 refine zb (zb (za ?_))
 refine s_mv ?_
 refine s_mv ?_
 refine zgq yU24 ?_
 refine s_lt ?_
 refine zf (zd ?_)
 refine zo F11 ?_ ?_ <;> intro C20 F12
 refine awp_lenA 7 12043 (fun B21 => ?_)
 refine zi (zd (zb (zl (zb (za ?_)))))
 refine s_mv ?_
 refine s_mv ?_
 obtain ⟨v22, V22, F13⟩ := zc F12
 refine s_ixA rI V22 yE24 ?_
 refine s_lA1 rI V22 rfl yA3 ?_
 refine s_gt ?_
 refine zf (zd ?_)
 refine zo F13 ?_ ?_ <;> intro C23 F14
 refine zb (za ?_)
 refine s_as ?_
 refine zf (zd (zh (zj (zg (zw (zj (zg (zm ?_))))))))
 cases F14
 exact zk [] [] Tryz.results23
 refine zi (zX (zd (za ?_)))
 refine s_mv ?_
 refine zQ (zbg C20 B21 hn_g18) ?_
 refine s_as ?_
 refine zf ?_
 exact s_rn (fu, (g18 + 1)) ⟨by first | omega | (dsimp only; omega), F14, by first | omega | (dsimp only; omega)⟩
 refine zC (zr (zq (zu (zd (zb (za ?_))))))
 refine s_mv ?_
 refine zgq yU25 ?_
 refine s_le ?_
 refine s_as ?_
 refine zf (zd (zh (zm ?_)))
 cases F12
 exact zk [] [] Tryz.results23
def m_spec_l2Has_AC (fuel : Nat) : Prop := ∀ (x1 : (List Int)) (x2 : Int) (r : Bool), zfl fuel x1 x2 = some r → AC Tryz.prog 153 [.t (.sl (x1.map rI)), .t (.sc (.int .i64 x2))] noOb (.t (.sc (.bool r))) noOb
theorem m_spec_l2Has_ok (fuel : Nat) : m_spec_l2Has_AC fuel := by
 intro x1 x2 r F0
 unfold zfl at F0
 refine AC_i [.t (.sc (.bool r))] Tryz.func153 rfl Tryz.ntmps153 ?_
 intro C hC
 refine zb (za ?_)
 refine s_as ?_
 refine zf (zd (zb (zb (za ?_))))
 refine s_as ?_
 refine zf (zd (zl ?_))
 refine zbu (β := Int) [4, 5, 6, 7, 8, 9, 10, 11, 12, 13, 14, 15, 16, 17] [] [] (fun a => [(5, .t (.sc (.int .i64 a.2)))]) (fun a => []) (fun a => a.1 ≤ fuel ∧ zcV a.1 x1 x2 a.2 = some r ∧ 0 ≤ a.2) (fuel, 0) ⟨Nat.le_refl _, F0, by simp⟩ ?_
 clear F0
 rintro ⟨fu, g1⟩ ⟨hl2, F1, hn_g1⟩
 dsimp only at hl2 F1 hn_g1 ⊢
 obtain _ | fu := fu
 · rw [zcV] at F1; cases F1
 rw [zcV] at F1
 refine zb (zb (za ?_))
 refine s_mv ?_
 refine s_mv ?_
 refine zD yU24 ?_
 refine s_lt ?_
 refine zf (zd ?_)
 refine zo F1 ?_ ?_ <;> intro C3 F2
 refine zT 0 (fun B4 => ?_)
 refine zi (zd (zb (zl (zb (za ?_)))))
 refine s_mv ?_
 refine s_mv ?_
 obtain ⟨v5, V5, F3⟩ := zc F2
 refine z7 rI V5 rfl yE24 ?_
 refine zv yA3 ?_
 refine s_mv ?_
 refine s_eq ?_
 refine zf (zd ?_)
 refine zo F3 ?_ ?_ <;> intro C6 F4
 refine zb (za ?_)
 refine s_as ?_
 refine zf (zd (zh (zj (zg (zw (zj (zg (zm ?_))))))))
 cases F4
 exact zk [] [] Tryz.results153
 refine zi (zX (zd (za ?_)))
 refine s_mv ?_
 refine zQ (zbg C3 B4 hn_g1) ?_
 refine s_as ?_
 refine zf ?_
 exact s_rn (fu, (g1 + 1)) ⟨by first | omega | (dsimp only; omega), F4, by first | omega | (dsimp only; omega)⟩
 refine zC (zr (zq (zu (zd (zb (za ?_))))))
 refine s_as ?_
 refine zf (zd (zh (zm ?_)))
 cases F2
 exact zk [] [] Tryz.results153
def m_spec_ScopesWithin_AC (fuel : Nat) : Prop := ∀ (x1 : (List Int)) (x2 : (List Int)) (r : Bool), zce fuel x1 x2 = some r → AC Tryz.prog 141 [.t (.sl (x1.map rI)), .t (.sl (x2.map rI))] noOb (.t (.sc (.bool r))) noOb
theorem zfM (fuel : Nat) : m_spec_ScopesWithin_AC fuel := by
 intro x1 x2 r F0
 unfold zce at F0
 refine AC_i [.t (.sc (.bool r))] Tryz.func141 rfl Tryz.ntmps141 ?_
 intro C hC
 refine zb (za ?_)
 refine s_as ?_
 refine zf (zd (zb (zb (za ?_))))
 refine s_as ?_
 refine zf (zd (zl ?_))
 refine zbu (β := Int) [4, 5, 6, 7, 8, 9, 10, 11, 12, 13, 14, 15, 16, 17, 18] [] [] (fun a => [(5, .t (.sc (.int .i64 a.2)))]) (fun a => []) (fun a => a.1 ≤ fuel ∧ zbh a.1 x1 x2 a.2 = some r ∧ 0 ≤ a.2) (fuel, 0) ⟨Nat.le_refl _, F0, by simp⟩ ?_
 clear F0
 rintro ⟨fu, g1⟩ ⟨hl2, F1, hn_g1⟩
 dsimp only at hl2 F1 hn_g1 ⊢
 obtain _ | fu := fu
 · rw [zbh] at F1; cases F1
 rw [zbh] at F1
 refine zb (zb (za ?_))
 refine s_mv ?_
 refine s_mv ?_
 refine zD yU24 ?_
 refine s_lt ?_
 refine zf (zd ?_)
 refine zo F1 ?_ ?_ <;> intro C3 F2
 refine zT 0 (fun B4 => ?_)
 refine zi (zd (zb (zl (zb (za ?_)))))
 iterate 3 refine s_mv ?_
 obtain ⟨v5, V5, F3⟩ := zc F2
 refine z7 rI V5 rfl yE24 ?_
 refine zv yA3 ?_
 obtain ⟨v6, V6, F4⟩ := zc F3
 refine zx [] (m_spec_l2Has_ok fu _ _ _ V6) ?_
 refine zby ?_
 refine zf (zd ?_)
 refine zo F4 ?_ ?_ <;> intro C7 F5
 refine zb (za ?_)
 refine s_as ?_
 refine zf (zd (zh (zj (zg (zw (zj (zg (zm ?_))))))))
 cases F5
 exact zk [] [] Tryz.results141
 refine zi (zX (zd (za ?_)))
 refine s_mv ?_
 refine zQ (zbg C3 B4 hn_g1) ?_
 refine s_as ?_
 refine zf ?_
 exact s_rn (fu, (g1 + 1)) ⟨by first | omega | (dsimp only; omega), F5, by first | omega | (dsimp only; omega)⟩
 refine zC (zr (zq (zu (zd (zb (za ?_))))))
 refine s_as ?_
 refine zf (zd (zh (zm ?_)))
 cases F2
 exact zk [] [] Tryz.results141
def m_spec_l3Fitting_AC (fuel : Nat) : Prop := ∀ (x1 : (List Bind)) (x2 : Form) (r : (List Int)), zdR fuel x1 x2 = some r → AC Tryz.prog 140 [.t (.sl (x1.map Bind.row)), .ag [.t (.sc (.int .i64 x2.kind)), .t (.sc (.str x2.name)), .t (.sc (.int .i64 x2.n)), .t (.sl (x2.scopes.map rI)), .t (.sl (x2.kids.map Form.row))]] noOb (.t (.sl (r.map rI))) noOb
theorem m_spec_l3Fitting_ok (fuel : Nat) : m_spec_l3Fitting_AC fuel := by
 intro x1 x2 r F0
 unfold zdR at F0
 refine AC_i [.t (.sl (r.map rI))] Tryz.func140 rfl Tryz.ntmps140 ?_
 intro C hC
 refine zb (za ?_)
 refine zbz ?_
 refine s_as ?_
 refine zf (zd (zb (za ?_)))
 refine s_bs rI ([] : List Int) yP24 yR3 ?_
 refine s_as ?_
 refine zf (zd (zb (zb (za ?_))))
 refine s_as ?_
 refine zf (zd (zl ?_))
 refine zcy 5 7 5020 (by conv => lhs; whnf) (by conv => lhs; whnf) rfl ?_
 refine zax [5, 6, 8, 9, 10, 11, 12, 13, 14, 15, 16, 17, 18, 19, 20, 21, 22, 23, 24, 25, 26, 27, 28, 29, 30, 31, 32, 33, 34, 35] [5020] [34, 35] [5020] (fun a : Nat × (List Int) × Int => a.1) (fun a : Nat × (List Int) × Int => [(5, .ar 5020), (6, .t (.sc (.int .i64 a.2.2)))]) (fun a : Nat × (List Int) × Int => [(5020, .arr (a.2.1.map rI) 3 true)]) (fun a : Nat × (List Int) × Int => a.1 ≤ fuel ∧ za4 a.1 x1 x2 a.2.1 a.2.2 = some r ∧ 0 ≤ a.2.2) (fuel, ([] : List Int), 0) ⟨Nat.le_refl _, F0, by simp⟩ (by rfl) (by rfl) (fun _ => rfl) (zL (by conv => lhs; whnf) (by rfl) (zL (by conv => lhs; whnf) (by rfl) zbx)) (zP (by conv => lhs; whnf) (by rfl) zbm) (zcx hC rfl) (by repeat (first | exact zak rfl | refine zaG rfl ?_ | refine zZ rfl ?_)) (by repeat (first | exact za3 | exact zas rfl | refine zaH rfl ?_ | refine z6 rfl ?_)) ?_
 clear F0
 rintro ⟨fu, g1, g2⟩ ⟨hl3, F1, hn_g2⟩
 dsimp only at hl3 F1 hn_g2 ⊢
 obtain _ | fu := fu
 · rw [za4] at F1; cases F1
 rw [za4] at F1
 refine zb (zb (za ?_))
 refine s_mv ?_
 refine s_mv ?_
 refine zD yU23 ?_
 refine s_lt ?_
 refine zf (zd ?_)
 refine zo F1 ?_ ?_ <;> intro C4 F2
 refine zT 0 (fun B5 => ?_)
 refine zi (zd (zb (zl ?_)))
 refine zbY (α := Nat × Bool) [14, 15, 16, 17, 18, 19, 20, 21, 22, 23, 24, 25, 26, 27, 28, 29, 30, 31] [] [] (fun a => [(31, .t (.sc (.bool a.2)))]) (fun a => []) (fun a => a.1 ≤ fu ∧ zbL a.1 x1 x2 g1 g2 a.2 = some r) ?_ ?_
 refine zW yMix (by kernel_rfl) ?_
 refine s_mv ?_
 refine s_mv ?_
 obtain ⟨v6, V6, F3⟩ := zc F2
 refine z7 Bind.row V6 (Bind.row_eq _) yE23 ?_
 refine s_fa yF50_0 ?_
 refine zv yA9 ?_
 refine s_fa zbQ ?_
 refine zv yA9 ?_
 refine zf1 ?_
 refine s_mv ?_
 refine zp _ 22 F3 ?_ ?_ <;> intro C7 F4
 refine s_mv ?_
 refine s_mv ?_
 obtain ⟨v8, V8, F5⟩ := zc F4
 refine z7 Bind.row V8 (Bind.row_eq _) yE23 ?_
 refine s_fa yF50_1 ?_
 refine zv yA24 ?_
 refine s_fa zeQ ?_
 refine zv yA24 ?_
 obtain ⟨v9, V9, F6⟩ := zc F5
 refine zx [] (zfM fu _ _ _ V9) ?_
 refine zz ?_
 refine zaA (by kernel_rfl) ?_
 exact s_jn (fu, v9) ⟨by first | omega | (dsimp only; omega), F6⟩
 iterate 8 refine r_no rfl ?_
 refine zy ?_
 refine zaA (by kernel_rfl) ?_
 exact s_jn (fu, false) ⟨by first | omega | (dsimp only; omega), F4⟩
 clear F2
 rintro ⟨fu, g10⟩ ⟨hl11, F3⟩
 dsimp only at hl11 F3 ⊢
 obtain _ | fu := fu
 · rw [zbL] at F3; cases F3
 rw [zbL] at F3
 refine zo F3 ?_ ?_ <;> intro C12 F4
 refine za ?_
 refine s_mv ?_
 refine s_mv ?_
 refine s_bs rI [g2] yP24 yR3 ?_
 obtain ⟨hk13, F5⟩ := zai F4
 refine zfo rI (fun _ => rfl) hk13 yP24 ?_
 refine s_as ?_
 refine zf (zX (zd (za ?_)))
 refine s_mv ?_
 refine zQ (zbg C4 B5 hn_g2) ?_
 refine s_as ?_
 refine zf ?_
 exact s_rn (fu, (g1 ++ [g2]), (g2 + 1)) ⟨by first | omega | (dsimp only; omega), F5, by first | omega | (dsimp only; omega)⟩ [(5020, 35)]
 refine zi (zX (zd (za ?_)))
 refine s_mv ?_
 refine zQ (zbg C4 B5 hn_g2) ?_
 refine s_as ?_
 refine zf ?_
 exact s_rn (fu, g1, (g2 + 1)) ⟨by first | omega | (dsimp only; omega), F4, by first | omega | (dsimp only; omega)⟩
 refine zC (zr (zq (zu (zd (zb (za ?_))))))
 refine s_mv ?_
 refine s_as ?_
 refine zf (zd (zh (zm ?_)))
 cases F2
 exact zk [] [5020] Tryz.results140
def m_spec_l3Find_AC (fuel : Nat) : Prop := ∀ (x1 : (List Bind)) (x2 : Form) (r : (Int × Int)), zeF fuel x1 x2 = some r → AC Tryz.prog 118 [.t (.sl (x1.map Bind.row)), .ag [.t (.sc (.int .i64 x2.kind)), .t (.sc (.str x2.name)), .t (.sc (.int .i64 x2.n)), .t (.sl (x2.scopes.map rI)), .t (.sl (x2.kids.map Form.row))]] noOb (.tp [.t (.sc (.int .i64 r.1)), .t (.sc (.int .i64 r.2))]) noOb
theorem m_spec_l3Find_ok (fuel : Nat) : m_spec_l3Find_AC fuel := by
 intro x1 x2 r F0
 unfold zeF at F0
 refine AC_i [.t (.sc (.int .i64 r.1)), .t (.sc (.int .i64 r.2))] Tryz.func118 rfl Tryz.ntmps118 ?_
 intro C hC
 refine zb (za ?_)
 refine zbz ?_
 refine s_as ?_
 refine s_as ?_
 refine zf (zd (zb (za ?_)))
 refine s_mv ?_
 refine zI yA27 yS27 ?_
 obtain ⟨v1, V1, F1⟩ := zc F0
 refine zx [] (m_spec_l3Fitting_ok fuel _ _ _ V1) ?_
 refine s_as ?_
 refine zf (zd (zb (zb (za ?_))))
 refine s_as ?_
 refine zf (zd (zl ?_))
 refine zbu (β := Int) [4, 5, 7, 8, 9, 13, 14, 15, 16, 17, 18, 19, 20, 21, 22, 23, 24, 25, 26, 27, 28, 29, 30, 31, 32, 33, 34, 35, 36, 37, 38, 39, 40, 41, 42, 43, 44, 45, 46, 47, 48, 49] [] [] (fun a => [(7, .t (.sc (.int .i64 a.2)))]) (fun a => []) (fun a => a.1 ≤ fuel ∧ zb2 a.1 x1 v1 a.2 = some r ∧ 0 ≤ a.2) (fuel, 0) ⟨Nat.le_refl _, F1, by simp⟩ ?_
 clear F1
 rintro ⟨fu, g2⟩ ⟨hl3, F2, hn_g2⟩
 dsimp only at hl3 F2 hn_g2 ⊢
 obtain _ | fu := fu
 · rw [zb2] at F2; cases F2
 rw [zb2] at F2
 refine zb (zb (za ?_))
 refine s_mv ?_
 refine s_mv ?_
 refine zD yU24 ?_
 refine s_lt ?_
 refine zf (zd ?_)
 refine zo F2 ?_ ?_ <;> intro C4 F3
 refine zT 6 (fun B5 => ?_)
 refine zi (zd (zb (zl (zb (za ?_)))))
 refine s_as ?_
 refine zf (zd ?_)
 refine zbY (α := Nat × Bool) [8, 9, 19, 20, 21, 22, 23, 24, 25, 26, 27, 28, 29, 30, 31, 32, 33, 34, 35, 36, 37, 38, 39, 40, 41, 42, 43, 44] [] [] (fun a => [(8, .t (.sc (.bool a.2)))]) (fun a => []) (fun a => a.1 ≤ fu ∧ zc7 a.1 x1 v1 g2 a.2 = some r) ?_ ?_
 refine zb (za ?_)
 refine s_as ?_
 refine zf (zd (zl ?_))
 refine zbu (β := Bool × Int) [8, 9, 19, 20, 21, 22, 23, 24, 25, 26, 27, 28, 29, 30, 31, 32, 33, 34, 35, 36, 37, 38, 39, 40, 41, 42, 43, 44] [] [] (fun a => [(8, .t (.sc (.bool a.2.1))), (9, .t (.sc (.int .i64 a.2.2)))]) (fun a => []) (fun a => a.1 ≤ fu ∧ zb1 a.1 x1 v1 g2 a.2.1 a.2.2 = some r ∧ 0 ≤ a.2.2) (fu, true, 0) ⟨Nat.le_refl _, F3, by simp⟩ ?_
 clear F3
 rintro ⟨fu, g6, g7⟩ ⟨hl8, F4, hn_g7⟩
 dsimp only at hl8 F4 hn_g7 ⊢
 obtain _ | fu := fu
 · rw [zb1] at F4; cases F4
 rw [zb1] at F4
 refine zb (zb (za ?_))
 refine s_mv ?_
 refine s_mv ?_
 refine zD yU24 ?_
 refine s_lt ?_
 refine zf (zd ?_)
 refine zo F4 ?_ ?_ <;> intro C9 F5
 refine zi (zd ?_)
 refine zbY (α := Nat × Bool) [8, 25, 26, 27, 28, 29, 30, 31, 32, 33, 34, 35, 36, 37, 38, 39, 40, 41, 42, 43, 44] [] [] (fun a => [(8, .t (.sc (.bool a.2)))]) (fun a => []) (fun a => a.1 ≤ fu ∧ zcH a.1 x1 v1 g2 g7 a.2 = some r) ?_ ?_
 refine zl ?_
 refine zW yMix (by kernel_rfl) ?_
 refine s_mv ?_
 refine s_mv ?_
 refine zp _ 26 F5 ?_ ?_ <;> intro C10 F6
 iterate 3 refine s_mv ?_
 obtain ⟨v11, V11, F7⟩ := zc F6
 refine z7 rI V11 rfl yE24 ?_
 refine zv yA3 ?_
 obtain ⟨v12, V12, F8⟩ := zc F7
 refine z7 Bind.row V12 (Bind.row_eq _) yE23 ?_
 refine s_fa yF50_1 ?_
 refine zv yA24 ?_
 iterate 3 refine s_mv ?_
 obtain ⟨v13, V13, F9⟩ := zc F8
 refine z7 rI V13 rfl yE24 ?_
 refine zv yA3 ?_
 obtain ⟨v14, V14, F10⟩ := zc F9
 refine z7 Bind.row V14 (Bind.row_eq _) yE23 ?_
 refine s_fa yF50_1 ?_
 refine zv yA24 ?_
 obtain ⟨v15, V15, F11⟩ := zc F10
 refine zx [] (zfM fu _ _ _ V15) ?_
 refine zz ?_
 refine s_as ?_
 refine zaA (by kernel_rfl) ?_
 refine zX ?_
 exact s_jn (fu, v15) ⟨by first | omega | (dsimp only; omega), F11⟩
 iterate 17 refine r_no rfl ?_
 refine zy ?_
 refine s_as ?_
 refine zaA (by kernel_rfl) ?_
 refine zX ?_
 exact s_jn (fu, false) ⟨by first | omega | (dsimp only; omega), F6⟩
 clear F5
 rintro ⟨fu, g16⟩ ⟨hl17, F6⟩
 dsimp only at hl17 F6 ⊢
 obtain _ | fu := fu
 · rw [zcH] at F6; cases F6
 rw [zcH] at F6
 refine za ?_
 refine s_mv ?_
 refine zQ (zbg C9 B5 hn_g7) ?_
 refine s_as ?_
 refine zf ?_
 exact s_rn (fu, g16, (g7 + 1)) ⟨by first | omega | (dsimp only; omega), F6, by first | omega | (dsimp only; omega)⟩
 refine zC (zr (zq (zu ?_)))
 exact s_jn (fu, g6) ⟨by first | omega | (dsimp only; omega), F5⟩
 clear F3
 rintro ⟨fu, g18⟩ ⟨hl19, F4⟩
 dsimp only at hl19 F4 ⊢
 obtain _ | fu := fu
 · rw [zc7] at F4; cases F4
 rw [zc7] at F4
 refine zb (za ?_)
 refine s_mv ?_
 refine zf (zd ?_)
 refine zo F4 ?_ ?_ <;> intro C20 F5
 refine zb (za ?_)
 refine s_mv ?_
 refine s_mv ?_
 obtain ⟨v21, V21, F6⟩ := zc F5
 refine z7 rI V21 rfl yE24 ?_
 refine zv yA3 ?_
 refine s_as ?_
 refine s_as ?_
 refine zf (zd (zh (zj (zg (zw (zj (zg (zm ?_))))))))
 cases F6
 exact zk [] [] Tryz.results118
 refine zi (zX (zd (za ?_)))
 refine s_mv ?_
 refine zQ (zbg C4 B5 hn_g2) ?_
 refine s_as ?_
 refine zf ?_
 exact s_rn (fu, (g2 + 1)) ⟨by first | omega | (dsimp only; omega), F5, by first | omega | (dsimp only; omega)⟩
 refine zC (zr (zq (zu (zd (zb (zb (za ?_)))))))
 refine s_mv ?_
 refine zD yU24 ?_
 refine s_gt ?_
 refine zf (zd ?_)
 refine zo F3 ?_ ?_ <;> intro C22 F4
 refine zT 6 (fun B23 => ?_)
 refine zb (za ?_)
 refine s_as ?_
 refine s_as ?_
 refine zf (zd (zh (zg (zm ?_))))
 cases F4
 exact zk [] [] Tryz.results118
 refine zi (zd (zb (za ?_)))
 refine s_as ?_
 refine s_as ?_
 refine zf (zd (zh (zm ?_)))
 cases F4
 exact zk [] [] Tryz.results118
def m_spec_l3Same_AC (fuel : Nat) : Prop := ∀ (x1 : (List Bind)) (x2 : Form) (x3 : Form) (r : Bool), zft fuel x1 x2 x3 = some r → AC Tryz.prog 73 [.t (.sl (x1.map Bind.row)), .ag [.t (.sc (.int .i64 x2.kind)), .t (.sc (.str x2.name)), .t (.sc (.int .i64 x2.n)), .t (.sl (x2.scopes.map rI)), .t (.sl (x2.kids.map Form.row))], .ag [.t (.sc (.int .i64 x3.kind)), .t (.sc (.str x3.name)), .t (.sc (.int .i64 x3.n)), .t (.sl (x3.scopes.map rI)), .t (.sl (x3.kids.map Form.row))]] noOb (.t (.sc (.bool r))) noOb
theorem m_spec_l3Same_ok (fuel : Nat) : m_spec_l3Same_AC fuel := by
 intro x1 x2 x3 r F0
 unfold zft at F0
 refine AC_i [.t (.sc (.bool r))] Tryz.func73 rfl Tryz.ntmps73 ?_
 intro C hC
 refine zb (za ?_)
 refine zbz ?_
 refine zbz ?_
 refine s_as ?_
 refine zf (zd (zb (za ?_)))
 refine s_mv ?_
 refine zI yA27 yS27 ?_
 obtain ⟨v1, V1, F1⟩ := zc F0
 refine zx [] (m_spec_l3Find_ok fuel _ _ _ V1) ?_
 refine s_mv ?_
 refine zbP ?_
 refine zbP ?_
 refine s_as ?_
 refine s_as ?_
 refine zf (zd (zb (za ?_)))
 refine s_mv ?_
 refine zI yA27 yS27 ?_
 obtain ⟨v2, V2, F2⟩ := zc F1
 refine zx [] (m_spec_l3Find_ok fuel _ _ _ V2) ?_
 refine s_mv ?_
 refine zbP ?_
 refine zbP ?_
 refine s_as ?_
 refine s_as ?_
 refine zf (zd (zb ?_))
 refine zbY (α := Nat × Bool) [23, 24, 25, 26, 27, 28, 29] [] [] (fun a => [(29, .t (.sc (.bool a.2)))]) (fun a => []) (fun a => a.1 ≤ fuel ∧ zcG a.1 x1 x2 x3 v1 v2 a.2 = some r) ?_ ?_
 refine za ?_
 refine s_mv ?_
 refine s_mv ?_
 refine s_ne ?_
 refine s_mv ?_
 refine zp _ 26 F2 ?_ ?_ <;> intro C3 F3
 refine r_no rfl (r_no rfl ?_)
 refine zz ?_
 refine zf ?_
 exact s_jn (fuel, true) ⟨by first | omega | (dsimp only; omega), F3⟩
 refine s_mv ?_
 refine s_eq ?_
 refine zy ?_
 refine zf ?_
 exact s_jn (fuel, (decide (v1.2 = 2))) ⟨by first | omega | (dsimp only; omega), F3⟩
 clear F2
 rintro ⟨fu, g4⟩ ⟨hl5, F3⟩
 dsimp only at hl5 F3 ⊢
 obtain _ | fu := fu
 · rw [zcG] at F3; cases F3
 rw [zcG] at F3
 refine zo F3 ?_ ?_ <;> intro C6 F4
 refine zb (za ?_)
 refine s_as ?_
 refine zf (zd (zh (zg (zm ?_))))
 cases F4
 exact zk [] [] Tryz.results73
 refine zi (zd (zb (zb (za ?_))))
 refine s_mv ?_
 refine s_eq ?_
 refine zf (zd ?_)
 refine zo F4 ?_ ?_ <;> intro C7 F5
 refine zb (za ?_)
 refine s_fa zbQ ?_
 refine zv yA9 ?_
 refine s_fa zbQ ?_
 refine zv yA9 ?_
 refine zf1 ?_
 refine s_as ?_
 refine zf (zd (zh (zg (zm ?_))))
 cases F5
 exact zk [] [] Tryz.results73
 refine zi (zd (zb ?_))
 refine zW yMix (by kernel_rfl) ?_
 refine s_mv ?_
 refine s_mv ?_
 obtain ⟨v8, V8, F6⟩ := zc F5
 refine z7 Bind.row V8 (Bind.row_eq _) yE23 ?_
 refine s_fa yF50_2 ?_
 refine zv yA3 ?_
 refine s_mv ?_
 refine s_mv ?_
 obtain ⟨v9, V9, F7⟩ := zc F6
 refine z7 Bind.row V9 (Bind.row_eq _) yE23 ?_
 refine s_fa yF50_2 ?_
 refine zv yA3 ?_
 refine s_eq ?_
 refine s_as ?_
 refine zaA (by kernel_rfl) ?_
 refine zd (zh (zm ?_))
 cases F7
 exact zk [] [] Tryz.results73
def m_spec_l4Row_AC (fuel : Nat) : Prop := ∀ (x1 : Form) (x2 : (List Form)) (x3 : (List (List Hit))) (r : (List Hit)), zf3 fuel x1 x2 x3 = some r → AC Tryz.prog 119 [.ag [.t (.sc (.int .i64 x1.kind)), .t (.sc (.str x1.name)), .t (.sc (.int .i64 x1.n)), .t (.sl (x1.scopes.map rI)), .t (.sl (x1.kids.map Form.row))], .t (.sl (x2.map Form.row)), .t (.sl (x3.map (rL Hit.row)))] noOb (.t (.sl (r.map Hit.row))) noOb
theorem m_spec_l4Row_ok (fuel : Nat) : m_spec_l4Row_AC fuel := by
 intro x1 x2 x3 r F0
 unfold zf3 at F0
 refine AC_i [.t (.sl (r.map Hit.row))] Tryz.func119 rfl Tryz.ntmps119 ?_
 intro C hC
 refine zb (za ?_)
 refine zbz ?_
 refine s_as ?_
 refine zf (zd (zb (za ?_)))
 refine s_bs Hit.row ([] : List Hit) yP30 yR38 ?_
 refine s_as ?_
 refine zf (zd (zb (za ?_)))
 refine s_bs Form.row ([] : List Form) yP25 yR27 ?_
 refine zI yA27 yS27 ?_
 refine s_mv ?_
 obtain ⟨v1, V1, F1⟩ := zc F0
 refine zN [(9300, 14), (9200, 12017)] [] _ _ (m_spec_l4Vars_ok fuel _ _ _ _ V1) ?_
 refine s_as ?_
 refine zf (zd (zb (za ?_)))
 refine s_bs rI ([] : List Int) yP24 yR3 ?_
 refine zI yA27 yS27 ?_
 refine s_mv ?_
 obtain ⟨v2, V2, F2⟩ := zc F1
 refine zN [(9300, 18), (9200, 12021)] [] _ _ (zgG fuel _ _ _ _ _ V2) ?_
 refine s_as ?_
 refine zf (zd (zb (zb (za ?_))))
 refine s_as ?_
 refine zf (zd (zl ?_))
 refine zcy 7 13 5020 (by conv => lhs; whnf) (by conv => lhs; whnf) rfl ?_
 refine zax [7, 10, 11, 12, 22, 23, 24, 25, 26, 27, 28, 29, 30, 31, 32, 33, 34, 35, 36, 37, 38, 39, 40, 41, 42, 43, 44, 45, 46, 47, 48, 49, 50, 51, 52, 53, 54, 55, 56, 57, 58, 59] [5020] [11, 58, 59, 5040] [5020] (fun a : Nat × (List Hit) × Int => a.1) (fun a : Nat × (List Hit) × Int => [(7, .ar 5020), (10, .t (.sc (.int .i64 a.2.2)))]) (fun a : Nat × (List Hit) × Int => [(5020, .arr (a.2.1.map Hit.row) 38 true)]) (fun a : Nat × (List Hit) × Int => a.1 ≤ fuel ∧ zcq a.1 x3 v1 v2 a.2.1 a.2.2 = some r) (fuel, ([] : List Hit), 0) ⟨Nat.le_refl _, F2⟩ (by rfl) (by rfl) (fun _ => rfl) (zL (by conv => lhs; whnf) (by rfl) (zL (by conv => lhs; whnf) (by rfl) zbx)) (zP (by conv => lhs; whnf) (by rfl) zbm) (zcx hC rfl) (by repeat (first | exact zak rfl | refine zaG rfl ?_ | refine zZ rfl ?_)) (by repeat (first | exact za3 | exact zas rfl | refine zaH rfl ?_ | refine z6 rfl ?_)) ?_
 clear F2
 rintro ⟨fu, g3, g4⟩ ⟨hl5, F3⟩
 dsimp only at hl5 F3 ⊢
 obtain _ | fu := fu
 · rw [zcq] at F3; cases F3
 rw [zcq] at F3
 refine zb (zb (za ?_))
 refine s_mv ?_
 refine s_mv ?_
 refine zgq yU25 ?_
 refine s_lt ?_
 refine zf (zd ?_)
 refine zo F3 ?_ ?_ <;> intro C6 F4
 refine awp_lenA 8 12017 (fun B7 => ?_)
 refine zi (zd (zb (zl (zb ?_))))
 refine zW yMix (by kernel_rfl) ?_
 refine zfK ?_
 refine s_mv ?_
 obtain ⟨v8, V8, F5⟩ := zc F4
 refine s_ixA Form.row V8 yE25 ?_
 refine s_lAN Form.row V8 (Form.row_eq _) yA27 yS27 ?_
 refine zfK ?_
 refine s_mv ?_
 obtain ⟨v9, V9, F6⟩ := zc F5
 refine s_ixA rI V9 yE24 ?_
 refine s_lA1 rI V9 rfl yA3 ?_
 refine zQ rfl ?_
 refine zgz yZ38 yL38 ?_
 refine zY yZ38 ?_
 refine zap yS38 ?_
 refine zaA (by kernel_rfl) ?_
 refine zd (zb (zb (za ?_)))
 refine s_as ?_
 refine zf (zd (zl ?_))
 refine awp_ownB 11 5040 38 [.t (.sc (.int .i64 v8.kind)), .t (.sc (.str v8.name)), .t (.sc (.int .i64 v8.n)), .t (.sl (v8.scopes.map rI)), .t (.sl (v8.kids.map Form.row)), .t (.sc (.int .i64 (w64 (v9 + 1)))), .t (.sc (.int .i64 0)), .t (.sc (.str (⟨#[]⟩ : ByteArray))), .t (.sc (.int .i64 0)), .nl, .nl, .ar 5040] yI38.choose_spec ?_
 refine zax [12, 38, 39, 40, 41, 42, 43, 44, 45, 46, 47, 48, 49, 50, 51, 52, 53, 54, 55] [11, 5040] [53, 54] [5040] (fun a : Nat × Int × (List Hit) => a.1) (fun a : Nat × Int × (List Hit) => [(12, .t (.sc (.int .i64 a.2.1)))]) (fun a : Nat × Int × (List Hit) => [(11, .box [.t (.sc (.int .i64 v8.kind)), .t (.sc (.str v8.name)), .t (.sc (.int .i64 v8.n)), .t (.sl (v8.scopes.map rI)), .t (.sl (v8.kids.map Form.row)), .t (.sc (.int .i64 (w64 (v9 + 1)))), .t (.sc (.int .i64 0)), .t (.sc (.str (⟨#[]⟩ : ByteArray))), .t (.sc (.int .i64 0)), .nl, .nl, .ar 5040]), (5040, .arr (a.2.2.map Hit.row) 38 true)]) (fun a : Nat × Int × (List Hit) => a.1 ≤ fu ∧ zcp a.1 x3 v1 v2 g3 g4 v8 v9 a.2.1 a.2.2 = some r ∧ 0 ≤ a.2.1) (fu, 0, ([] : List Hit)) ⟨Nat.le_refl _, F6, by simp⟩ (by rfl) (by rfl) (fun _ => rfl) (zL (by conv => lhs; whnf) (by rfl) zbx) (zP (by conv => lhs; whnf) (by rfl) (zP (by conv => lhs; whnf) (by rfl) zbm)) (zcx hC rfl) (by repeat (first | exact zak rfl | refine zaG rfl ?_ | refine zZ rfl ?_)) (by repeat (first | exact za3 | exact zas rfl | refine zaH rfl ?_ | refine z6 rfl ?_)) ?_
 clear F6
 rintro ⟨fu, g10, g11⟩ ⟨hl12, F7, hn_g10⟩
 dsimp only at hl12 F7 hn_g10 ⊢
 obtain _ | fu := fu
 · rw [zcp] at F7; cases F7
 rw [zcp] at F7
 refine zb (zb (za ?_))
 refine s_mv ?_
 refine s_mv ?_
 refine zD yU130 ?_
 refine s_lt ?_
 refine zf (zd ?_)
 refine zo F7 ?_ ?_ <;> intro C13 F8
 refine zT 2 (fun B14 => ?_)
 refine zi (zd (zb (zl ?_)))
 refine zW yMix (by kernel_rfl) ?_
 refine s_fa zgo ?_
 refine zv yA30 ?_
 refine s_mv ?_
 refine s_mv ?_
 obtain ⟨v15, V15, F9⟩ := zc F8
 refine z7 (rL Hit.row) V15 rfl yE130 ?_
 refine zv yA30 ?_
 refine s_mv ?_
 obtain ⟨v16, V16, F10⟩ := zc F9
 refine z7 Hit.row V16 (Hit.row_eq _) yE30 ?_
 refine za1 yA38 yS38 ?_
 refine s_bs Hit.row [v16] yP30 yR38 ?_
 obtain ⟨hk17, F11⟩ := zai F10
 refine zfo Hit.row (fun y => Hit.row_len y) hk17 yP30 ?_
 refine s_fa zgo ?_
 refine s_stP yS30 ?_
 refine zaA (by kernel_rfl) ?_
 refine zX (zd (za ?_))
 refine s_mv ?_
 refine zQ (zbg C13 B14 hn_g10) ?_
 refine s_as ?_
 refine zf ?_
 exact s_rn (fu, (g10 + 1), (g11 ++ [v16])) ⟨by first | omega | (dsimp only; omega), F11, by first | omega | (dsimp only; omega)⟩ [(5040, 54)]
 refine zC (zr (zq (zu (zd (za ?_)))))
 refine s_mv ?_
 refine zI yA38 yS38 ?_
 refine s_bs Hit.row [(Hit.mk v8 (w64 (v9 + 1)) (Form.mk 0 (⟨#[]⟩ : ByteArray) 0 ([] : List Int) ([] : List Form)) g11)] yP30 yR38 ?_
 obtain ⟨hk18, F9⟩ := zai F8
 refine zfo Hit.row (fun y => Hit.row_len y) hk18 yP30 ?_
 refine s_as ?_
 refine zf (zX (zd (za ?_)))
 refine s_mv ?_
 refine zQ rfl ?_
 refine s_as ?_
 refine zf ?_
 exact s_rn (fu, (g3 ++ [(Hit.mk v8 (w64 (v9 + 1)) (Form.mk 0 (⟨#[]⟩ : ByteArray) 0 ([] : List Int) ([] : List Form)) g11)]), (w64 (g4 + 1))) ⟨by first | omega | (dsimp only; omega), F9⟩ [(5020, 59)]
 refine zC (zr (zq (zu (zd (zb (za ?_))))))
 refine s_mv ?_
 refine s_as ?_
 refine zf (zd (zh (zm ?_)))
 cases F4
 exact zk [] [5020] Tryz.results119
end Go.Abs
