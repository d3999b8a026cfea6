/- A part of the proof: what the functions that the law calls answer, as pure values. -/
import Derived.Test.YtilpcjgklfjdgaaGreatK497c36ee90b6
import Derived.Test.YtilpcjgklfjdgaaGreatKc2e0a31646d6
import Derived.Test.YtilpcjgklfjdgaaGreatKee9727030f10
import Derived.Test.YtilpcjgklfjdgaaGreatK1634ef1acfe6
import Derived.Test.YtilpcjgklfjdgaaGreatK5011f759f305
import Derived.Test.YtilpcjgklfjdgaaGreatKfdc0d9ae01a4
import Derived.Test.YtilpcjgklfjdgaaGreatK724feeb466d9
set_option linter.unusedSimpArgs false
set_option linter.unusedVariables false
set_option maxRecDepth 100000
set_option maxHeartbeats 4000000
namespace Go.Abs
open Go.Proofs
theorem m_spec_l5Fill_all (fuel : Nat) : zfd fuel := by
 induction fuel using Nat.strongRecOn with
 | _ N ih =>
   cases N with
   | zero => exact (by intro x1 x2 r h; rw [zc1] at h; cases h)
   | succ fu => exact m_spec_l5Fill_st fu (fun k hk => (ih k (by omega)))
theorem m_spec_l5Fill_ok (fuel : Nat) : zfd fuel := (m_spec_l5Fill_all fuel)
def m_spec_FillTemplate_AC (fuel : Nat) : Prop := ∀ (x1 : Form) (x2 : (List Hit)) (r : (Form × Bool)), zdh fuel x1 x2 = some r → AC Tryz.prog 18 [.ag [.t (.sc (.int .i64 x1.kind)), .t (.sc (.str x1.name)), .t (.sc (.int .i64 x1.n)), .t (.sl (x1.scopes.map rI)), .t (.sl (x1.kids.map Form.row))], .t (.sl (x2.map Hit.row))] noOb (.tp [.ag [.t (.sc (.int .i64 r.1.kind)), .t (.sc (.str r.1.name)), .t (.sc (.int .i64 r.1.n)), .t (.sl (r.1.scopes.map rI)), .t (.sl (r.1.kids.map Form.row))], .t (.sc (.bool r.2))]) noOb
theorem m_spec_FillTemplate_ok (fuel : Nat) : m_spec_FillTemplate_AC fuel := by
 intro x1 x2 r F0
 unfold zdh at F0
 refine AC_i [.ag [.t (.sc (.int .i64 r.1.kind)), .t (.sc (.str r.1.name)), .t (.sc (.int .i64 r.1.n)), .t (.sl (r.1.scopes.map rI)), .t (.sl (r.1.kids.map Form.row))], .t (.sc (.bool r.2))] Tryz.func18 rfl Tryz.ntmps18 ?_
 intro C hC
 refine zb (za ?_)
 refine zbh ?_
 refine z6 yZ32 ?_
 refine s_as ?_
 refine zf (zd (zb (za ?_)))
 refine zK yA32 yS32 ?_
 obtain ⟨v1, V1, F1⟩ := zc F0
 refine zv [] (m_spec_l15OwnForm_ok fuel _ _ V1) ?_
 refine zac yS32 ?_
 refine zf (zd (zb (zb (za ?_))))
 refine zK yA32 yS32 ?_
 refine s_mv ?_
 obtain ⟨v2, V2, F2⟩ := zc F1
 refine zv [] (zho fuel _ _ _ V2) ?_
 refine zby ?_
 refine zf (zd ?_)
 refine zm F2 ?_ ?_ <;> intro C3 F3
 refine zb (za ?_)
 refine zeC yZ32 yL32 ?_
 refine zac yS32 ?_
 refine s_as ?_
 refine zf (zd (zh (zg (zn ?_))))
 cases F3
 exact zI [] [] (by rw [Tryz.results18]; exact (z8 (by conv => lhs; whnf) (by conv => lhs; whnf) yA32 yS32 rfl (zae (by conv => lhs; whnf) zR)))
 refine zi (zd (zb (za ?_)))
 refine zK yA32 yS32 ?_
 refine s_mv ?_
 obtain ⟨v4, V4, F4⟩ := zc F3
 refine zv [] (m_spec_l5Fill_ok fuel _ _ _ V4) ?_
 refine s_mv ?_
 refine zcp ?_
 refine zcp ?_
 refine z6 yZ32 ?_
 refine zac yS32 ?_
 refine s_as ?_
 refine zf (zd (zb (zb (za ?_))))
 refine s_mv ?_
 refine zby ?_
 refine s_mv ?_
 refine zo _ 23 F4 ?_ ?_ <;> intro C5 F5
 iterate 3 refine r_no rfl ?_
 refine zA ?_
 refine zf (zd (zM rfl (zb (za ?_))))
 refine zeC yZ32 yL32 ?_
 refine zac yS32 ?_
 refine s_as ?_
 refine zf (zd (zh (zg (zn ?_))))
 cases F5
 exact zI [] [] (by rw [Tryz.results18]; exact (z8 (by conv => lhs; whnf) (by conv => lhs; whnf) yA32 yS32 rfl (zae (by conv => lhs; whnf) zR)))
 refine zK yA32 yS32 ?_
 obtain ⟨v6, V6, F6⟩ := zc F5
 refine zv [] (zaJ fuel _ _ V6) ?_
 refine zby ?_
 refine zB ?_
 refine zf (zd ?_)
 refine zm F6 ?_ ?_ <;> intro C7 F7
 refine zb (za ?_)
 refine zeC yZ32 yL32 ?_
 refine zac yS32 ?_
 refine s_as ?_
 refine zf (zd (zh (zg (zn ?_))))
 cases F7
 exact zI [] [] (by rw [Tryz.results18]; exact (z8 (by conv => lhs; whnf) (by conv => lhs; whnf) yA32 yS32 rfl (zae (by conv => lhs; whnf) zR)))
 refine zi (zd (zb (za ?_)))
 refine zK yA32 yS32 ?_
 refine zac yS32 ?_
 refine s_as ?_
 refine zf (zd (zh (zn ?_)))
 cases F7
 exact zI [] [] (by rw [Tryz.results18]; exact (z8 (by conv => lhs; whnf) (by conv => lhs; whnf) yA32 yS32 rfl (zae (by conv => lhs; whnf) zR)))
def m_laws_FnFillVar_AC (fuel : Nat) : Prop := ∀ (x1 : (List Int)) (r : Bool), zfl fuel x1 = some r → AC Tryz.prog 4 [.t (.sl (x1.map rB))] noOb (.t (.sc (.bool r))) noOb
theorem m_laws_FnFillVar_ok (fuel : Nat) : m_laws_FnFillVar_AC fuel := by
 intro x1 r F0
 unfold zfl at F0
 refine AC_i [.t (.sc (.bool r))] Tryz.func4 rfl Tryz.ntmps4 ?_
 intro C hC
 refine zb (za ?_)
 refine s_as ?_
 refine zf (zd (zb (zb (za ?_))))
 refine s_mv ?_
 refine zE yU22 ?_
 refine s_gt ?_
 refine zf (zd ?_)
 refine zm F0 ?_ ?_ <;> intro C1 F1
 refine zV 0 (fun B2 => ?_)
 refine zb (za ?_)
 refine s_as ?_
 refine zf (zd (zh (zg (zn ?_))))
 cases F1
 exact zl [] [] Tryz.results4
 refine zi (zd (zb (za ?_)))
 refine s_mv ?_
 obtain ⟨v3, V3, F2⟩ := zc F1
 refine zv [] (zgK fuel _ _ V3) ?_
 refine s_mv ?_
 refine zcp ?_
 refine zcp ?_
 refine z6 yZ32 ?_
 refine zac yS32 ?_
 refine s_as ?_
 refine zf (zd (zb (za ?_)))
 refine zK yA32 yS32 ?_
 refine s_mv ?_
 obtain ⟨v4, V4, F3⟩ := zc F2
 refine zv [] (zfX fuel _ _ _ V4) ?_
 refine s_mv ?_
 refine zcp ?_
 refine zcp ?_
 refine z6 yZ32 ?_
 refine zac yS32 ?_
 refine s_as ?_
 refine zf (zd (zb (za ?_)))
 refine zK yA32 yS32 ?_
 refine s_mv ?_
 obtain ⟨v5, V5, F4⟩ := zc F3
 refine zv [] (m_spec_FillTemplate_ok fuel _ _ _ V5) ?_
 refine s_mv ?_
 refine zcp ?_
 refine zcp ?_
 refine z6 yZ32 ?_
 refine zac yS32 ?_
 refine s_as ?_
 refine zf (zd (zb ?_))
 refine zbt (α := Nat × Bool) [32, 33, 34, 35, 36, 37, 38, 39, 40, 41, 42, 43, 44, 45] [] [] (fun a => [(45, .t (.sc (.bool a.2)))]) (fun a => []) (fun a => a.1 ≤ fuel ∧ zbq a.1 v3 v4 v5 a.2 = some r) ?_ ?_
 refine za ?_
 refine zK yA32 yS32 ?_
 refine zK yA32 yS32 ?_
 obtain ⟨v6, V6, F5⟩ := zc F4
 refine zv [] (zbE fuel _ _ _ V6) ?_
 refine zby ?_
 refine s_mv ?_
 refine zo _ 36 F5 ?_ ?_ <;> intro C7 F6
 iterate 3 refine r_no rfl ?_
 refine zA ?_
 refine s_mv ?_
 iterate 3 refine r_no rfl ?_
 refine zA ?_
 refine zf ?_
 exact s_jn (fuel, true) ⟨by first | omega | (dsimp only; omega), F6⟩
 refine s_mv ?_
 refine s_mv ?_
 refine s_neB yU4 ?_
 refine zB ?_
 refine s_mv ?_
 refine zo _ 41 F6 ?_ ?_ <;> intro C8 F7
 iterate 3 refine r_no rfl ?_
 refine zA ?_
 refine zf ?_
 exact s_jn (fuel, true) ⟨by first | omega | (dsimp only; omega), F7⟩
 refine s_mv ?_
 obtain ⟨v9, V9, F8⟩ := zc F7
 refine zv [] (zgD fuel _ _ V9) ?_
 refine zby ?_
 refine zB ?_
 refine zf ?_
 exact s_jn (fuel, (!v9)) ⟨by first | omega | (dsimp only; omega), F8⟩
 clear F4
 rintro ⟨fu, g10⟩ ⟨hl11, F5⟩
 dsimp only at hl11 F5 ⊢
 obtain _ | fu := fu
 · rw [zbq] at F5; cases F5
 rw [zbq] at F5
 refine zm F5 ?_ ?_ <;> intro C12 F6
 refine zbt (α := Nat × Bool) [2, 46, 47, 48, 49, 50, 51, 52, 53] [] [] (fun a => [(2, .t (.sc (.bool a.2)))]) (fun a => []) (fun a => a.1 ≤ fu ∧ zcy a.1  a.2 = some r) ?_ ?_
 refine za ?_
 refine zK yA32 yS32 ?_
 refine zK yA32 yS32 ?_
 obtain ⟨v13, V13, F7⟩ := zc F6
 refine zv [] (zbE fu _ _ _ V13) ?_
 refine s_mv ?_
 refine zo _ 49 F7 ?_ ?_ <;> intro C14 F8
 refine s_mv ?_
 refine s_mv ?_
 refine s_eqB yU4 ?_
 refine zA ?_
 refine s_as ?_
 refine zf ?_
 exact s_jn (fu, (decide (v4.2 = v5.2))) ⟨by first | omega | (dsimp only; omega), F8⟩
 iterate 3 refine r_no rfl ?_
 refine zB ?_
 refine s_as ?_
 refine zf ?_
 exact s_jn (fu, false) ⟨by first | omega | (dsimp only; omega), F8⟩
 clear F6
 rintro ⟨fu, g15⟩ ⟨hl16, F7⟩
 dsimp only at hl16 F7 ⊢
 obtain _ | fu := fu
 · rw [zcy] at F7; cases F7
 rw [zcy] at F7
 refine zh (zg (zn ?_))
 cases F7
 exact zl [] [] Tryz.results4
 refine zi (zd (zb (zb (za ?_))))
 refine s_as ?_
 refine zf (zd (zk ?_))
 refine za1 (β := Int) [2, 9, 10, 11, 54, 55, 56, 57, 58, 59, 60, 61, 62, 63, 64, 65, 66, 67, 68, 69, 70, 71, 72, 73, 74, 75, 76, 77, 78, 79, 80, 81, 82, 83, 84, 85, 86, 87, 88, 89, 90] [] [10] (fun a => [(9, .t (.sc (.int .i64 a.2)))]) (fun a => []) (fun a => a.1 ≤ fu ∧ zaZ a.1 v3 a.2 = some r ∧ 0 ≤ a.2) (fu, 0) ⟨Nat.le_refl _, F6, by simp⟩ ?_
 clear F6
 rintro ⟨fu, g17⟩ ⟨hl18, F7, hn_g17⟩
 dsimp only at hl18 F7 hn_g17 ⊢
 obtain _ | fu := fu
 · rw [zaZ] at F7; cases F7
 rw [zaZ] at F7
 refine zb (zb (za ?_))
 refine s_mv ?_
 refine s_mv ?_
 refine zE yU42 ?_
 refine s_lt ?_
 refine zf (zd ?_)
 refine zm F7 ?_ ?_ <;> intro C19 F8
 refine zV 4 (fun B20 => ?_)
 refine zi (zd (zb (zk (zb (za ?_)))))
 refine s_mv ?_
 refine s_mv ?_
 obtain ⟨v21, V21, F9⟩ := zc F8
 refine zN Hit.row V21 (Hit.row_eq _) yE42 ?_
 refine s_fa zeX ?_
 refine zaq yA32 yS32 ?_
 refine s_mv ?_
 obtain ⟨v22, V22, F10⟩ := zc F9
 refine zv [] (zfX fu _ _ _ V22) ?_
 refine s_mv ?_
 refine zcp ?_
 refine zcp ?_
 refine z6 yZ32 ?_
 refine zac yS32 ?_
 refine s_as ?_
 refine zf (zd (zb ?_))
 refine zY yMix (by kernel_rfl) ?_
 iterate 3 refine s_mv ?_
 obtain ⟨v23, V23, F11⟩ := zc F10
 refine zN Hit.row V23 (Hit.row_eq _) yE42 ?_
 refine s_fa zfD ?_
 refine zu yA3 ?_
 refine s_eq ?_
 refine s_neB yU4 ?_
 refine s_mv ?_
 refine zo _ 78 F11 ?_ ?_ <;> intro C24 F12
 iterate 11 refine r_no rfl ?_
 refine zA ?_
 refine zal (by kernel_rfl) ?_
 refine zd (zM rfl (zb (za ?_)))
 refine s_as ?_
 refine zf (zd (zh (zj (zg (zx (zj (zg (zn ?_))))))))
 cases F12
 exact zl [] [] Tryz.results4
 refine s_mv ?_
 refine s_mv ?_
 refine zo _ 80 F12 ?_ ?_ <;> intro C25 F13
 refine zK yA32 yS32 ?_
 refine s_mv ?_
 refine s_mv ?_
 obtain ⟨v26, V26, F14⟩ := zc F13
 refine zN Hit.row V26 (Hit.row_eq _) yE42 ?_
 refine s_fa yF48_2 ?_
 refine zaq yA32 yS32 ?_
 obtain ⟨v27, V27, F15⟩ := zc F14
 refine zv [] (zbE fu _ _ _ V27) ?_
 refine zby ?_
 refine zA ?_
 refine zB ?_
 refine zal (by kernel_rfl) ?_
 refine zd ?_
 refine zm F15 ?_ ?_ <;> intro C28 F16
 refine zb (za ?_)
 refine s_as ?_
 refine zf (zd (zh (zj (zg (zx (zj (zg (zn ?_))))))))
 cases F16
 exact zl [] [] Tryz.results4
 refine zi (z5 (zd (za ?_)))
 refine s_mv ?_
 refine zO (zaA C19 B20 hn_g17) ?_
 refine s_as ?_
 refine zf ?_
 exact s_rn (fu, (g17 + 1)) ⟨by first | omega | (dsimp only; omega), F16, by first | omega | (dsimp only; omega)⟩
 iterate 8 refine r_no rfl ?_
 refine zB ?_
 refine zB ?_
 refine zal (by kernel_rfl) ?_
 refine zd (zaI rfl (zi (z5 (zd (za ?_)))))
 refine s_mv ?_
 refine zO (zaA C19 B20 hn_g17) ?_
 refine s_as ?_
 refine zf ?_
 exact s_rn (fu, (g17 + 1)) ⟨by first | omega | (dsimp only; omega), F13, by first | omega | (dsimp only; omega)⟩
 refine zz (zq (zp (zr (zd (zb (za ?_))))))
 refine s_as ?_
 refine zf (zd (zh (zn ?_)))
 cases F8
 exact zl [] [] Tryz.results4
end Go.Abs
