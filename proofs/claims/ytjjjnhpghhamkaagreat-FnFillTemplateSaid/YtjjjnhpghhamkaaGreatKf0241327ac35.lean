/- A part of the proof: what the functions that the law calls answer, as pure values. -/
import Derived.Test.YtjjjnhpghhamkaaGreatK867bbe4d6fe6
import Derived.Test.YtjjjnhpghhamkaaGreatK4b90a649640b
import Derived.Test.YtjjjnhpghhamkaaGreatK17049cea853b
import Derived.Test.YtjjjnhpghhamkaaGreatKba44e2044c52
import Derived.Test.YtjjjnhpghhamkaaGreatK886f62453d29
import Derived.Test.YtjjjnhpghhamkaaGreatKffe405a2eb68
import Derived.Test.YtjjjnhpghhamkaaGreatK588ed05b64c6
import Derived.Test.YtjjjnhpghhamkaaGreatK6965184f9e71
set_option linter.unusedSimpArgs false
set_option linter.unusedVariables false
set_option maxRecDepth 100000
set_option maxHeartbeats 4000000
namespace Go.Abs
open Go.Proofs
def zfi (fuel : Nat) : Prop := ∀ (x1 : Form) (x2 : (List Hit)) (r : (Form × Bool)), zc0 fuel x1 x2 = some r → AC Tryz.prog 113 [.ag [.t (.sc (.int .i64 x1.kind)), .t (.sc (.str x1.name)), .t (.sc (.int .i64 x1.n)), .t (.sl (x1.scopes.map rI)), .t (.sl (x1.kids.map Form.row))], .t (.sl (x2.map Hit.row))] noOb (.tp [.ag [.t (.sc (.int .i64 r.1.kind)), .t (.sc (.str r.1.name)), .t (.sc (.int .i64 r.1.n)), .t (.sl (r.1.scopes.map rI)), .t (.sl (r.1.kids.map Form.row))], .t (.sc (.bool r.2))]) noOb
theorem m_spec_l5Fill_st (fu : Nat) (ih_m_spec_l5Fill : ∀ k, k ≤ fu → zfi k) : zfi (fu + 1) := by
 intro x1 x2 r F0
 rw [zc0] at F0
 refine AC_i [.ag [.t (.sc (.int .i64 r.1.kind)), .t (.sc (.str r.1.name)), .t (.sc (.int .i64 r.1.n)), .t (.sl (r.1.scopes.map rI)), .t (.sl (r.1.kids.map Form.row))], .t (.sc (.bool r.2))] Tryz.func113 rfl Tryz.ntmps113 ?_
 intro C hC
 refine zb (za ?_)
 refine zbf ?_
 refine z6 yZ27 ?_
 refine s_as ?_
 refine zf (zd (zb (za ?_)))
 refine s_as ?_
 refine zf (zd ?_)
 refine zbk (α := Nat × Int) [6, 16, 17, 18, 19, 20, 21] [] [] (fun a => [(6, .t (.sc (.int .i64 a.2)))]) (fun a => []) (fun a => a.1 ≤ fu ∧ zch a.1 x1 x2 a.2 = some r) ?_ ?_
 refine zb (za ?_)
 refine s_fa zc2 ?_
 refine zu yA3 ?_
 refine s_eq ?_
 refine zf (zd ?_)
 refine zm F0 ?_ ?_ <;> intro C1 F1
 refine za ?_
 refine s_mv ?_
 refine zI yA27 yS27 ?_
 obtain ⟨v2, V2, F2⟩ := zc F1
 refine zv [] (m_spec_l4Find_ok fu _ _ _ V2) ?_
 refine s_as ?_
 refine zf ?_
 exact s_jn (fu, v2) ⟨by first | omega | (dsimp only; omega), F2⟩
 refine zi ?_
 exact s_jn (fu, (-1)) ⟨by first | omega | (dsimp only; omega), F1⟩
 clear F0
 rintro ⟨fu, g3⟩ ⟨hl4, F1⟩
 dsimp only at hl4 F1 ⊢
 obtain _ | fu := fu
 · rw [zch] at F1; cases F1
 rw [zch] at F1
 refine zb (zb (za ?_))
 refine s_mv ?_
 refine s_ge ?_
 refine zf (zd ?_)
 refine zm F1 ?_ ?_ <;> intro C5 F2
 refine zb ?_
 refine zW yMix (by kernel_rfl) ?_
 refine s_mv ?_
 refine s_mv ?_
 obtain ⟨v6, V6, F3⟩ := zc F2
 refine zM Hit.row V6 (Hit.row_eq _) yE30 ?_
 refine s_fa yF40_2 ?_
 refine zan yA27 yS27 ?_
 obtain ⟨v7, V7, F4⟩ := zc F3
 refine z5 [(9203, 2029), (9204, 12029)] [] _ _ (zbQ fu _ _ V7) ?_
 refine s_mv ?_
 refine s_mv ?_
 obtain ⟨v8, V8, F5⟩ := zc F4
 refine zM Hit.row V8 (Hit.row_eq _) yE30 ?_
 refine s_fa zf0 ?_
 refine zu yA3 ?_
 refine s_eq ?_
 refine zac yS27 ?_
 refine s_as ?_
 refine zak (by kernel_rfl) ?_
 refine zd (zh (zg (zn ?_)))
 cases F5
 exact zJ [] [2029, 12029] (by rw [Tryz.results113]; exact (z8 (by conv => lhs; whnf) (by conv => lhs; whnf) yA27 yS27 rfl (zae (by conv => lhs; whnf) zU)))
 refine zi (zd (zb ?_))
 refine zW yMix (by kernel_rfl) ?_
 refine s_fa zc2 ?_
 refine zu yA3 ?_
 refine s_fa zdn ?_
 refine zu yA9 ?_
 refine s_fa zge ?_
 refine zu yA3 ?_
 refine s_bs rI ([] : List Int) yP24 yR3 ?_
 refine s_fa ze5 ?_
 refine zu yA24 ?_
 obtain ⟨hk9, F3⟩ := zah F2
 refine zdX rI (fun _ => rfl) hk9 yP24 ?_
 refine zeH yZ27 yL27 ?_
 refine z6 yZ27 ?_
 refine zac yS27 ?_
 refine zak (by kernel_rfl) ?_
 refine zd (zb (za ?_))
 refine s_as ?_
 refine zf (zd (zb (zb (za ?_))))
 refine s_as ?_
 refine zf (zd (zk ?_))
 refine zgZ 7 5040 27 [.t (.sc (.int .i64 x1.kind)), .t (.sc (.str x1.name)), .t (.sc (.int .i64 x1.n)), .ar 45, .ar 5040] yI27.choose_spec ?_
 refine zao [5, 8, 9, 10, 11, 12, 13, 14, 15, 47, 48, 49, 50, 51, 52, 53, 54, 55, 56, 57, 58, 59, 60, 61, 62, 63, 64, 65, 66, 67, 68, 69, 70, 71, 72, 73, 74, 75, 76, 77, 78, 79, 80, 81, 82, 83, 84, 85, 86, 87, 88, 89, 90, 91, 92, 93, 94, 95, 96, 97, 98, 99, 100, 101, 102, 103, 104, 105, 106, 107, 108, 109, 110, 111, 112, 113, 114, 115, 116, 117, 118, 119, 120, 121, 122, 123, 124, 125, 126, 127] [7, 5040] [5100] [5040] (fun a : Nat × Int × Int × (List Form) => a.1) (fun a : Nat × Int × Int × (List Form) => [(5, .t (.sc (.bool false))), (8, .t (.sc (.int .i64 a.2.2.1))), (9, .t (.sc (.int .i64 a.2.1)))]) (fun a : Nat × Int × Int × (List Form) => [(7, .box [.t (.sc (.int .i64 x1.kind)), .t (.sc (.str x1.name)), .t (.sc (.int .i64 x1.n)), .ar 45, .ar 5040]), (5040, .arr (a.2.2.2.map Form.row) 27 true)]) (fun a : Nat × Int × Int × (List Form) => a.1 ≤ fu ∧ zby a.1 x1 x2 a.2.1 a.2.2.1 a.2.2.2 = some r) (fu, 0, 0, ([] : List Form)) ⟨Nat.le_refl _, F3⟩ (by rfl) (by rfl) (fun _ => rfl) (zG (by conv => lhs; whnf) (by rfl) (zG (by conv => lhs; whnf) (by rfl) (zG (by conv => lhs; whnf) (by rfl) za3))) (zV (by conv => lhs; whnf) (by rfl) (zV (by conv => lhs; whnf) (by rfl) zaU)) (zb8 hC rfl) (by repeat (first | exact zag rfl | refine zau rfl ?_ | refine zZ rfl ?_)) (by repeat (first | exact zaI | exact zal rfl | refine zav rfl ?_ | refine z4 rfl ?_)) ?_
 clear F3
 rintro ⟨fu, g10, g11, g12⟩ ⟨hl13, F4⟩
 dsimp only at hl13 F4 ⊢
 obtain _ | fu := fu
 · rw [zby] at F4; cases F4
 rw [zby] at F4
 refine zb (zb (za ?_))
 refine s_mv ?_
 refine s_fa zH ?_
 refine zu yA25 ?_
 refine zE yU25 ?_
 refine s_lt ?_
 refine zf (zd ?_)
 refine zm F4 ?_ ?_ <;> intro C14 F5
 refine zT 49 (fun B15 => ?_)
 refine zi (zd (zb (zk (zb (zb (za ?_))))))
 refine s_fa zH ?_
 refine zu yA25 ?_
 refine s_mv ?_
 obtain ⟨v16, V16, F6⟩ := zc F5
 refine zM Form.row V16 (Form.row_eq _) yE25 ?_
 refine zan yA27 yS27 ?_
 obtain ⟨v17, V17, F7⟩ := zc F6
 refine zv [] (zaG fu _ _ V17) ?_
 refine zf (zd ?_)
 refine zm F7 ?_ ?_ <;> intro C18 F8
 refine zz (zq (zr (zd (za ?_))))
 refine s_mv ?_
 refine zN (zaz C14 B15 (zfw V16).1) ?_
 refine s_as ?_
 refine zf ?_
 exact s_rn (fu, (g10 + 1), g11, g12) ⟨by first | omega | (dsimp only; omega), F8⟩
 refine zi (zd (zb (za ?_)))
 refine s_as ?_
 refine zf (zd ?_)
 refine zbk (α := Nat × Bool) [11, 60, 61, 62, 63, 64, 65, 66, 67, 68, 69, 70, 71, 72, 73, 74] [] [] (fun a => [(11, .t (.sc (.bool a.2)))]) (fun a => []) (fun a => a.1 ≤ fu ∧ zcg a.1 x1 x2 g10 g11 g12 a.2 = some r) ?_ ?_
 refine za ?_
 refine s_mv ?_
 refine zN (zaz C14 B15 (zfw V16).1) ?_
 refine s_fa zH ?_
 refine zu yA25 ?_
 refine zE yU25 ?_
 refine s_lt ?_
 refine s_mv ?_
 refine zo _ 66 F8 ?_ ?_ <;> intro C19 F9
 refine s_fa zH ?_
 refine zu yA25 ?_
 refine s_mv ?_
 refine zN (zaz C14 B15 (zfw V16).1) ?_
 obtain ⟨v20, V20, F10⟩ := zc F9
 refine zM Form.row V20 (Form.row_eq _) yE25 ?_
 refine zan yA27 yS27 ?_
 obtain ⟨v21, V21, F11⟩ := zc F10
 refine zv [] (zaG fu _ _ V21) ?_
 refine zA ?_
 refine s_as ?_
 refine zf ?_
 exact s_jn (fu, v21) ⟨by first | omega | (dsimp only; omega), F11⟩
 iterate 7 refine r_no rfl ?_
 refine zB ?_
 refine s_as ?_
 refine zf ?_
 exact s_jn (fu, false) ⟨by first | omega | (dsimp only; omega), F9⟩
 clear F8
 rintro ⟨fu, g22⟩ ⟨hl23, F9⟩
 dsimp only at hl23 F9 ⊢
 obtain _ | fu := fu
 · rw [zcg] at F9; cases F9
 rw [zcg] at F9
 refine zbk (α := Nat × Int) [10, 75, 76, 77, 78, 79, 80, 81, 82] [] [] (fun a => [(10, .t (.sc (.int .i64 a.2)))]) (fun a => []) (fun a => a.1 ≤ fu ∧ zcf a.1 x1 x2 g10 g11 g12 g22 a.2 = some r) ?_ ?_
 refine zb (za ?_)
 refine s_mv ?_
 refine zf (zd ?_)
 refine zm F9 ?_ ?_ <;> intro C24 F10
 refine za ?_
 refine s_fa zH ?_
 refine zu yA25 ?_
 refine s_mv ?_
 obtain ⟨v25, V25, F11⟩ := zc F10
 refine zM Form.row V25 (Form.row_eq _) yE25 ?_
 refine zan yA27 yS27 ?_
 refine s_mv ?_
 obtain ⟨v26, V26, F12⟩ := zc F11
 refine zv [] (m_spec_l5Count_ok fu _ _ _ V26) ?_
 refine s_as ?_
 refine zf ?_
 exact s_jn (fu, v26) ⟨by first | omega | (dsimp only; omega), F12⟩
 refine zi ?_
 exact s_jn (fu, 1) ⟨by first | omega | (dsimp only; omega), F10⟩
 clear F9
 rintro ⟨fu, g27⟩ ⟨hl28, F10⟩
 dsimp only at hl28 F10 ⊢
 obtain _ | fu := fu
 · rw [zcf] at F10; cases F10
 rw [zcf] at F10
 refine zb (zb (za ?_))
 refine s_mv ?_
 refine s_lt ?_
 refine zf (zd ?_)
 refine zm F10 ?_ ?_ <;> intro C29 F11
 refine zb (za ?_)
 refine zI yA27 yS27 ?_
 refine zac yS27 ?_
 refine s_as ?_
 refine zf (zd (zh (zg (zj (zg (zx (zj (zg (zn ?_)))))))))
 cases F11
 exact zJ [] [] (by rw [Tryz.results113]; exact (z8 (by conv => lhs; whnf) (by conv => lhs; whnf) yA27 yS27 rfl (zae (by conv => lhs; whnf) zU)))
 refine zi (zd (zb (za ?_)))
 refine s_as ?_
 refine zf (zd (zk ?_))
 refine awp_mvB 7 5040 5100 [.t (.sc (.int .i64 x1.kind)), .t (.sc (.str x1.name)), .t (.sc (.int .i64 x1.n)), .ar 45, .ar 5100] ?_
 refine zao [5, 8, 12, 13, 14, 15, 86, 87, 88, 89, 90, 91, 92, 93, 94, 95, 96, 97, 98, 99, 100, 101, 102, 103, 104, 105, 106, 107, 108, 109, 110, 111, 112, 113, 114, 115, 116, 117, 118, 119, 120, 121, 122, 123, 124, 125, 126, 127] [7, 5100] [14, 125, 126] [5100] (fun a : Nat × Int × Int × (List Form) => a.1) (fun a : Nat × Int × Int × (List Form) => [(5, .t (.sc (.bool false))), (8, .t (.sc (.int .i64 a.2.1))), (12, .t (.sc (.int .i64 a.2.2.1)))]) (fun a : Nat × Int × Int × (List Form) => [(7, .box [.t (.sc (.int .i64 x1.kind)), .t (.sc (.str x1.name)), .t (.sc (.int .i64 x1.n)), .ar 45, .ar 5100]), (5100, .arr (a.2.2.2.map Form.row) 27 true)]) (fun a : Nat × Int × Int × (List Form) => a.1 ≤ fu ∧ zcd a.1 x1 x2 g10 g22 g27 a.2.1 a.2.2.1 a.2.2.2 = some r) (fu, g11, 0, g12) ⟨Nat.le_refl _, F11⟩ (by rfl) (by rfl) (fun _ => rfl) (zG (by conv => lhs; whnf) (by rfl) (zG (by conv => lhs; whnf) (by rfl) (zG (by conv => lhs; whnf) (by rfl) za3))) (zV (by conv => lhs; whnf) (by rfl) (zV (by conv => lhs; whnf) (by rfl) zaU)) (zb8 hC rfl) (by repeat (first | exact zag rfl | refine zau rfl ?_ | refine zZ rfl ?_)) (by repeat (first | exact zaI | exact zal rfl | refine zav rfl ?_ | refine z4 rfl ?_)) ?_
 clear F11
 rintro ⟨fu, g30, g31, g32⟩ ⟨hl33, F12⟩
 dsimp only at hl33 F12 ⊢
 obtain _ | fu := fu
 · rw [zcd] at F12; cases F12
 rw [zcd] at F12
 refine zb (zb (za ?_))
 refine s_mv ?_
 refine s_mv ?_
 refine s_lt ?_
 refine zf (zd ?_)
 refine zm F12 ?_ ?_ <;> intro C34 F13
 refine zi (zd (zb (zk (zb (za ?_)))))
 refine s_mv ?_
 refine s_as ?_
 refine zf (zd ?_)
 refine zbk (α := Nat × (List Hit)) [13, 92, 93, 94, 95, 96, 97, 98, 99, 100] [] [] (fun a => [(13, .t (.sl (a.2.map Hit.row)))]) (fun a => []) (fun a => a.1 ≤ fu ∧ zcP a.1 x1 x2 g10 g22 g27 g30 g31 g32 a.2 = some r) ?_ ?_
 refine zb (za ?_)
 refine s_mv ?_
 refine zf (zd ?_)
 refine zm F13 ?_ ?_ <;> intro C35 F14
 refine za ?_
 refine s_fa zH ?_
 refine zu yA25 ?_
 refine s_mv ?_
 obtain ⟨v36, V36, F15⟩ := zc F14
 refine zM Form.row V36 (Form.row_eq _) yE25 ?_
 refine zan yA27 yS27 ?_
 refine s_mv ?_
 refine s_mv ?_
 obtain ⟨v37, V37, F16⟩ := zc F15
 refine zv [] (m_spec_l5Nth_ok fu _ _ _ _ V37) ?_
 refine s_as ?_
 refine zf ?_
 exact s_jn (fu, v37) ⟨by first | omega | (dsimp only; omega), F16⟩
 refine zi ?_
 exact s_jn (fu, x2) ⟨by first | omega | (dsimp only; omega), F14⟩
 clear F13
 rintro ⟨fu, g38⟩ ⟨hl39, F14⟩
 dsimp only at hl39 F14 ⊢
 obtain _ | fu := fu
 · rw [zcP] at F14; cases F14
 rw [zcP] at F14
 refine zb (za ?_)
 refine s_fa zH ?_
 refine zu yA25 ?_
 refine s_mv ?_
 obtain ⟨v40, V40, F15⟩ := zc F14
 refine zM Form.row V40 (Form.row_eq _) yE25 ?_
 refine zan yA27 yS27 ?_
 refine s_mv ?_
 obtain ⟨v41, V41, F16⟩ := zc F15
 refine zv [] (ih_m_spec_l5Fill fu (by omega) _ _ _ V41) ?_
 refine s_mv ?_
 refine zct ?_
 refine zct ?_
 refine z6 yZ27 ?_
 refine zac yS27 ?_
 refine s_as ?_
 refine zf (zd (zb (za ?_)))
 refine s_mv ?_
 refine zI yA27 yS27 ?_
 obtain ⟨v42, V42, F17⟩ := zc F16
 refine zv [] (zhb fu _ _ V42) ?_
 refine zN rfl ?_
 refine s_as ?_
 refine zf (zd (zb ?_))
 refine zbk (α := Nat × Bool) [115, 116, 117, 118, 119, 120] [] [] (fun a => [(120, .t (.sc (.bool a.2)))]) (fun a => []) (fun a => a.1 ≤ fu ∧ zce a.1 x1 x2 g10 g22 g27 g30 g31 g32 v41 v42 a.2 = some r) ?_ ?_
 refine za ?_
 refine s_mv ?_
 refine zbB ?_
 refine s_mv ?_
 refine zo _ 117 F17 ?_ ?_ <;> intro C43 F18
 refine r_no rfl (r_no rfl ?_)
 refine zA ?_
 refine zf ?_
 exact s_jn (fu, true) ⟨by first | omega | (dsimp only; omega), F18⟩
 refine s_mv ?_
 refine s_gt ?_
 refine zB ?_
 refine zf ?_
 exact s_jn (fu, (decide (400 < (w64 (g30 + v42))))) ⟨by first | omega | (dsimp only; omega), F18⟩
 clear F17
 rintro ⟨fu, g44⟩ ⟨hl45, F18⟩
 dsimp only at hl45 F18 ⊢
 obtain _ | fu := fu
 · rw [zce] at F18; cases F18
 rw [zce] at F18
 refine zm F18 ?_ ?_ <;> intro C46 F19
 refine zb (za ?_)
 refine zI yA27 yS27 ?_
 refine zac yS27 ?_
 refine s_as ?_
 refine zf (zd (zh (zg (zj (zg (zx (zj (zj (zg (zx (zj (zg (zn ?_)))))))))))))
 cases F19
 exact zJ [] [] (by rw [Tryz.results113]; exact (z8 (by conv => lhs; whnf) (by conv => lhs; whnf) yA27 yS27 rfl (zae (by conv => lhs; whnf) zU)))
 refine zi (zd (za ?_))
 refine s_fa zH ?_
 refine zu yA25 ?_
 refine zI yA27 yS27 ?_
 refine s_bs Form.row [v41.1] yP25 yR27 ?_
 obtain ⟨hk47, F20⟩ := zah F19
 refine zdX Form.row (fun y => Form.row_len y) hk47 yP25 ?_
 refine s_fa zH ?_
 refine zgK yS25 ?_
 refine zf (zX (zd (za ?_)))
 refine s_mv ?_
 refine zN rfl ?_
 refine s_as ?_
 refine zf ?_
 exact s_rn (fu, (w64 (g30 + v42)), (w64 (g31 + 1)), (g32 ++ [v41.1])) ⟨by first | omega | (dsimp only; omega), F20⟩ [(5100, 126)]
 refine zz (zq (zp (zr (zX (zd (za ?_))))))
 refine s_mv ?_
 refine zN rfl ?_
 refine s_as ?_
 refine zf ?_
 exact s_rn (fu, (w64 (g10 + 1)), g30, g32) ⟨by first | omega | (dsimp only; omega), F13⟩ [(5040, 5100)]
 refine zz (zq (zp (zr (zd (zb (za ?_))))))
 refine zI yA27 yS27 ?_
 refine zac yS27 ?_
 refine s_as ?_
 refine zf (zd (zh (zn ?_)))
 cases F5
 exact zJ [] [45, 5040] (by rw [Tryz.results113]; exact (z8 (by conv => lhs; whnf) (by conv => lhs; whnf) yA27 yS27 rfl (zae (by conv => lhs; whnf) zU)))
theorem m_spec_l5Fill_all (fuel : Nat) : zfi fuel := by
 induction fuel using Nat.strongRecOn with
 | _ N ih =>
   cases N with
   | zero => exact (by intro x1 x2 r h; rw [zc0] at h; cases h)
   | succ fu => exact m_spec_l5Fill_st fu (fun k hk => (ih k (by omega)))
theorem m_spec_l5Fill_ok (fuel : Nat) : zfi fuel := (m_spec_l5Fill_all fuel)
def m_spec_FillTemplate_AC (fuel : Nat) : Prop := ∀ (x1 : Form) (x2 : (List Hit)) (r : (Form × Bool)), zdh fuel x1 x2 = some r → AC Tryz.prog 52 [.ag [.t (.sc (.int .i64 x1.kind)), .t (.sc (.str x1.name)), .t (.sc (.int .i64 x1.n)), .t (.sl (x1.scopes.map rI)), .t (.sl (x1.kids.map Form.row))], .t (.sl (x2.map Hit.row))] noOb (.tp [.ag [.t (.sc (.int .i64 r.1.kind)), .t (.sc (.str r.1.name)), .t (.sc (.int .i64 r.1.n)), .t (.sl (r.1.scopes.map rI)), .t (.sl (r.1.kids.map Form.row))], .t (.sc (.bool r.2))]) noOb
theorem m_spec_FillTemplate_ok (fuel : Nat) : m_spec_FillTemplate_AC fuel := by
 intro x1 x2 r F0
 unfold zdh at F0
 refine AC_i [.ag [.t (.sc (.int .i64 r.1.kind)), .t (.sc (.str r.1.name)), .t (.sc (.int .i64 r.1.n)), .t (.sl (r.1.scopes.map rI)), .t (.sl (r.1.kids.map Form.row))], .t (.sc (.bool r.2))] Tryz.func52 rfl Tryz.ntmps52 ?_
 intro C hC
 refine zb (za ?_)
 refine zbf ?_
 refine z6 yZ27 ?_
 refine s_as ?_
 refine zf (zd (zb (za ?_)))
 refine zI yA27 yS27 ?_
 obtain ⟨v1, V1, F1⟩ := zc F0
 refine zv [] (m_spec_l15OwnForm_ok fuel _ _ V1) ?_
 refine zac yS27 ?_
 refine zf (zd (zb (zb (za ?_))))
 refine zI yA27 yS27 ?_
 refine s_mv ?_
 obtain ⟨v2, V2, F2⟩ := zc F1
 refine zv [] (zhs fuel _ _ _ V2) ?_
 refine zbB ?_
 refine zf (zd ?_)
 refine zm F2 ?_ ?_ <;> intro C3 F3
 refine zb (za ?_)
 refine zeH yZ27 yL27 ?_
 refine zac yS27 ?_
 refine s_as ?_
 refine zf (zd (zh (zg (zn ?_))))
 cases F3
 exact zJ [] [] (by rw [Tryz.results52]; exact (z8 (by conv => lhs; whnf) (by conv => lhs; whnf) yA27 yS27 rfl (zae (by conv => lhs; whnf) zU)))
 refine zi (zd (zb (za ?_)))
 refine zI yA27 yS27 ?_
 refine s_mv ?_
 obtain ⟨v4, V4, F4⟩ := zc F3
 refine zv [] (m_spec_l5Fill_ok fuel _ _ _ V4) ?_
 refine s_mv ?_
 refine zct ?_
 refine zct ?_
 refine z6 yZ27 ?_
 refine zac yS27 ?_
 refine s_as ?_
 refine zf (zd (zb (zb (za ?_))))
 refine s_mv ?_
 refine zbB ?_
 refine s_mv ?_
 refine zo _ 23 F4 ?_ ?_ <;> intro C5 F5
 iterate 3 refine r_no rfl ?_
 refine zA ?_
 refine zf (zd (zO rfl (zb (za ?_))))
 refine zeH yZ27 yL27 ?_
 refine zac yS27 ?_
 refine s_as ?_
 refine zf (zd (zh (zg (zn ?_))))
 cases F5
 exact zJ [] [] (by rw [Tryz.results52]; exact (z8 (by conv => lhs; whnf) (by conv => lhs; whnf) yA27 yS27 rfl (zae (by conv => lhs; whnf) zU)))
 refine zI yA27 yS27 ?_
 obtain ⟨v6, V6, F6⟩ := zc F5
 refine zv [] (zaK fuel _ _ V6) ?_
 refine zbB ?_
 refine zB ?_
 refine zf (zd ?_)
 refine zm F6 ?_ ?_ <;> intro C7 F7
 refine zb (za ?_)
 refine zeH yZ27 yL27 ?_
 refine zac yS27 ?_
 refine s_as ?_
 refine zf (zd (zh (zg (zn ?_))))
 cases F7
 exact zJ [] [] (by rw [Tryz.results52]; exact (z8 (by conv => lhs; whnf) (by conv => lhs; whnf) yA27 yS27 rfl (zae (by conv => lhs; whnf) zU)))
 refine zi (zd (zb (za ?_)))
 refine zI yA27 yS27 ?_
 refine zac yS27 ?_
 refine s_as ?_
 refine zf (zd (zh (zn ?_)))
 cases F7
 exact zJ [] [] (by rw [Tryz.results52]; exact (z8 (by conv => lhs; whnf) (by conv => lhs; whnf) yA27 yS27 rfl (zae (by conv => lhs; whnf) zU)))
def zhf (fuel : Nat) : Prop := ∀ (x1 : (List Int)) (r : Bool), zdB fuel x1 = some r → AC Tryz.prog 11 [.t (.sl (x1.map rB))] noOb (.t (.sc (.bool r))) noOb
theorem zhe (fuel : Nat) : zhf fuel := by
 intro x1 r F0
 unfold zdB at F0
 refine AC_i [.t (.sc (.bool r))] Tryz.func11 rfl Tryz.ntmps11 ?_
 intro C hC
 refine zb (za ?_)
 refine s_as ?_
 refine zf (zd (zb (zb (za ?_))))
 refine s_mv ?_
 refine zE yU22 ?_
 refine s_gt ?_
 refine zf (zd ?_)
 refine zm F0 ?_ ?_ <;> intro C1 F1
 refine zT 0 (fun B2 => ?_)
 refine zb (za ?_)
 refine s_as ?_
 refine zf (zd (zh (zg (zn ?_))))
 cases F1
 exact zl [] [] Tryz.results11
 refine zi (zd (zb (za ?_)))
 refine s_mv ?_
 obtain ⟨v3, V3, F2⟩ := zc F1
 refine zv [] (zgL fuel _ _ V3) ?_
 refine s_mv ?_
 refine zct ?_
 refine zct ?_
 refine z6 yZ27 ?_
 refine zac yS27 ?_
 refine s_as ?_
 refine zf (zd (zb (za ?_)))
 refine zI yA27 yS27 ?_
 refine s_mv ?_
 obtain ⟨v4, V4, F3⟩ := zc F2
 refine zv [] (m_impl_FillTemplate_ok fuel _ _ _ V4) ?_
 refine s_mv ?_
 refine zct ?_
 refine zct ?_
 refine z6 yZ27 ?_
 refine zac yS27 ?_
 refine s_as ?_
 refine zf (zd (zb (za ?_)))
 refine zI yA27 yS27 ?_
 refine s_mv ?_
 obtain ⟨v5, V5, F4⟩ := zc F3
 refine zv [] (m_spec_FillTemplate_ok fuel _ _ _ V5) ?_
 refine s_mv ?_
 refine zct ?_
 refine zct ?_
 refine z6 yZ27 ?_
 refine zac yS27 ?_
 refine s_as ?_
 refine zf (zd (zb ?_))
 refine zbk (α := Nat × Bool) [31, 32, 33, 34, 35, 36, 37, 38, 39, 40, 41, 42, 43] [] [] (fun a => [(43, .t (.sc (.bool a.2)))]) (fun a => []) (fun a => a.1 ≤ fuel ∧ zaD a.1 v3 v4 v5 a.2 = some r) ?_ ?_
 refine za ?_
 refine zI yA27 yS27 ?_
 refine zI yA27 yS27 ?_
 obtain ⟨v6, V6, F5⟩ := zc F4
 refine zv [] (zbj fuel _ _ _ V6) ?_
 refine zbB ?_
 refine s_mv ?_
 refine zo _ 35 F5 ?_ ?_ <;> intro C7 F6
 iterate 3 refine r_no rfl ?_
 refine zA ?_
 refine s_mv ?_
 refine r_no rfl (r_no rfl ?_)
 refine zA ?_
 refine zf ?_
 exact s_jn (fuel, true) ⟨by first | omega | (dsimp only; omega), F6⟩
 refine s_mv ?_
 refine s_mv ?_
 refine s_neB yU4 ?_
 refine zB ?_
 refine s_mv ?_
 refine zo _ 40 F6 ?_ ?_ <;> intro C8 F7
 refine r_no rfl (r_no rfl ?_)
 refine zA ?_
 refine zf ?_
 exact s_jn (fuel, true) ⟨by first | omega | (dsimp only; omega), F7⟩
 refine s_mv ?_
 refine zbB ?_
 refine zB ?_
 refine zf ?_
 exact s_jn (fuel, (!v4.2)) ⟨by first | omega | (dsimp only; omega), F7⟩
 clear F4
 rintro ⟨fu, g9⟩ ⟨hl10, F5⟩
 dsimp only at hl10 F5 ⊢
 obtain _ | fu := fu
 · rw [zaD] at F5; cases F5
 rw [zaD] at F5
 refine zm F5 ?_ ?_ <;> intro C11 F6
 refine zbk (α := Nat × Bool) [2, 44, 45, 46, 47, 48, 49, 50, 51] [] [] (fun a => [(2, .t (.sc (.bool a.2)))]) (fun a => []) (fun a => a.1 ≤ fu ∧ zbm a.1  a.2 = some r) ?_ ?_
 refine za ?_
 refine zI yA27 yS27 ?_
 refine zI yA27 yS27 ?_
 obtain ⟨v12, V12, F7⟩ := zc F6
 refine zv [] (zbj fu _ _ _ V12) ?_
 refine s_mv ?_
 refine zo _ 47 F7 ?_ ?_ <;> intro C13 F8
 refine s_mv ?_
 refine s_mv ?_
 refine s_eqB yU4 ?_
 refine zA ?_
 refine s_as ?_
 refine zf ?_
 exact s_jn (fu, (decide (v4.2 = v5.2))) ⟨by first | omega | (dsimp only; omega), F8⟩
 iterate 3 refine r_no rfl ?_
 refine zB ?_
 refine s_as ?_
 refine zf ?_
 exact s_jn (fu, false) ⟨by first | omega | (dsimp only; omega), F8⟩
 clear F6
 rintro ⟨fu, g14⟩ ⟨hl15, F7⟩
 dsimp only at hl15 F7 ⊢
 obtain _ | fu := fu
 · rw [zbm] at F7; cases F7
 rw [zbm] at F7
 refine zh (zg (zn ?_))
 cases F7
 exact zl [] [] Tryz.results11
 refine zi (zd (zb (za ?_)))
 refine s_as ?_
 refine zf (zd ?_)
 refine zbk (α := Nat × Bool) [9, 10, 52, 53, 54, 55, 56, 57, 58, 59, 60, 61, 62, 63, 64, 65, 66, 67] [] [] (fun a => [(9, .t (.sc (.bool a.2)))]) (fun a => []) (fun a => a.1 ≤ fu ∧ zbl a.1 v3 v4 a.2 = some r) ?_ ?_
 refine zb (za ?_)
 refine s_as ?_
 refine zf (zd (zk ?_))
 refine za1 (β := Bool × Int) [9, 10, 52, 53, 54, 55, 56, 57, 58, 59, 60, 61, 62, 63, 64, 65, 66, 67] [] [] (fun a => [(9, .t (.sc (.bool a.2.1))), (10, .t (.sc (.int .i64 a.2.2)))]) (fun a => []) (fun a => a.1 ≤ fu ∧ zat a.1 v3 v4 a.2.1 a.2.2 = some r ∧ 0 ≤ a.2.2) (fu, false, 0) ⟨Nat.le_refl _, F6, by simp⟩ ?_
 clear F6
 rintro ⟨fu, g16, g17⟩ ⟨hl18, F7, hn_g17⟩
 dsimp only at hl18 F7 hn_g17 ⊢
 obtain _ | fu := fu
 · rw [zat] at F7; cases F7
 rw [zat] at F7
 refine zb (zb (za ?_))
 refine s_mv ?_
 refine s_mv ?_
 refine zE yU30 ?_
 refine s_lt ?_
 refine zf (zd ?_)
 refine zm F7 ?_ ?_ <;> intro C19 F8
 refine zT 4 (fun B20 => ?_)
 refine zi (zd (zb (zk ?_)))
 refine zW yMix (by kernel_rfl) ?_
 refine s_mv ?_
 refine s_mv ?_
 refine zo _ 59 F8 ?_ ?_ <;> intro C21 F9
 iterate 7 refine r_no rfl ?_
 refine zA ?_
 refine s_as ?_
 refine zak (by kernel_rfl) ?_
 refine zX (zd (za ?_))
 refine s_mv ?_
 refine zN (zaz C19 B20 hn_g17) ?_
 refine s_as ?_
 refine zf ?_
 exact s_rn (fu, true, (g17 + 1)) ⟨by first | omega | (dsimp only; omega), F9, by first | omega | (dsimp only; omega)⟩
 refine zI yA27 yS27 ?_
 refine s_mv ?_
 refine s_mv ?_
 obtain ⟨v22, V22, F10⟩ := zc F9
 refine zM Hit.row V22 (Hit.row_eq _) yE30 ?_
 refine s_fa ze4 ?_
 refine zan yA27 yS27 ?_
 obtain ⟨v23, V23, F11⟩ := zc F10
 refine zv [] (m_laws_mxPart_ok fu _ _ _ V23) ?_
 refine zB ?_
 refine s_as ?_
 refine zak (by kernel_rfl) ?_
 refine zX (zd (za ?_))
 refine s_mv ?_
 refine zN (zaz C19 B20 hn_g17) ?_
 refine s_as ?_
 refine zf ?_
 exact s_rn (fu, v23, (g17 + 1)) ⟨by first | omega | (dsimp only; omega), F11, by first | omega | (dsimp only; omega)⟩
 refine zz (zq (zp (zr ?_)))
 exact s_jn (fu, g16) ⟨by first | omega | (dsimp only; omega), F8⟩
 clear F6
 rintro ⟨fu, g24⟩ ⟨hl25, F7⟩
 dsimp only at hl25 F7 ⊢
 obtain _ | fu := fu
 · rw [zbl] at F7; cases F7
 rw [zbl] at F7
 refine zb (za ?_)
 refine zI yA27 yS27 ?_
 obtain ⟨v26, V26, F8⟩ := zc F7
 refine zv [] (zdj fu _ _ V26) ?_
 refine s_mv ?_
 refine zo _ 70 F8 ?_ ?_ <;> intro C27 F9
 refine zI yA27 yS27 ?_
 refine s_mv ?_
 obtain ⟨v28, V28, F10⟩ := zc F9
 refine zv [] (zfW fu _ _ _ V28) ?_
 refine zA ?_
 refine s_mv ?_
 refine zo _ 75 F10 ?_ ?_ <;> intro C29 F11
 refine s_mv ?_
 refine s_mv ?_
 refine zo _ 77 F11 ?_ ?_ <;> intro C30 F12
 iterate 3 refine r_no rfl ?_
 refine zA ?_
 refine zA ?_
 refine s_as ?_
 refine zf (zd (zh (zn ?_)))
 cases F12
 exact zl [] [] Tryz.results11
 refine zI yA27 yS27 ?_
 refine zI yA27 yS27 ?_
 obtain ⟨v31, V31, F13⟩ := zc F12
 refine zv [] (zbj fu _ _ _ V31) ?_
 refine zB ?_
 refine zA ?_
 refine s_as ?_
 refine zf (zd (zh (zn ?_)))
 cases F13
 exact zl [] [] Tryz.results11
 iterate 6 refine r_no rfl ?_
 refine zB ?_
 refine s_as ?_
 refine zf (zd (zh (zn ?_)))
 cases F11
 exact zl [] [] Tryz.results11
 iterate 3 refine r_no rfl ?_
 refine zB ?_
 refine s_mv ?_
 iterate 6 refine r_no rfl ?_
 refine zB ?_
 refine s_as ?_
 refine zf (zd (zh (zn ?_)))
 cases F9
 exact zl [] [] Tryz.results11
end Go.Abs
