/- A part of the proof: what the functions that the law calls answer, as pure values. -/
import Derived.Test.YtjjjnhpghhamkaaGreatK867bbe4d6fe6
import Derived.Test.YtjjjnhpghhamkaaGreatK4b90a649640b
import Derived.Test.YtjjjnhpghhamkaaGreatKac1bd4e93480
import Derived.Test.YtjjjnhpghhamkaaGreatK03b3262cfb9c
import Derived.Test.YtjjjnhpghhamkaaGreatK7ac0b3551e5d
import Derived.Test.YtjjjnhpghhamkaaGreatK17049cea853b
import Derived.Test.YtjjjnhpghhamkaaGreatKba44e2044c52
import Derived.Test.YtjjjnhpghhamkaaGreatK886f62453d29
import Derived.Test.YtjjjnhpghhamkaaGreatKffe405a2eb68
import Derived.Test.YtjjjnhpghhamkaaGreatK6965184f9e71
set_option linter.unusedSimpArgs false
set_option linter.unusedVariables false
set_option maxRecDepth 100000
set_option maxHeartbeats 4000000
namespace Go.Abs
open Go.Proofs
theorem m_impl_fill_1_st (fu : Nat) (ih_m_impl_fill : ∀ k, k ≤ fu → zfd k) (ih_m_impl_fill_1 : ∀ k, k ≤ fu → zfu k) : zfu (fu + 1) := by
 intro x1 x2 o1 o2 r F0
 rw [zdD] at F0
 refine AC_i [.t (.sc (.bool r.1))] Tryz.func165 rfl Tryz.ntmps165 ?_
 intro C hC
 refine zb (za ?_)
 refine zbf ?_
 refine s_as ?_
 refine zf (zd (zb (za ?_)))
 refine zI yA27 yS27 ?_
 refine s_mv ?_
 obtain ⟨v1, V1, F1⟩ := zc F0
 refine zv [] (ih_m_impl_fill fu (by omega) _ _ _ V1) ?_
 refine s_mv ?_
 refine zct ?_
 refine zct ?_
 refine z6 yZ27 ?_
 refine zac yS27 ?_
 refine s_as ?_
 refine zf (zd (zb (zb (za ?_))))
 refine s_mv ?_
 refine zbB ?_
 refine zf (zd ?_)
 refine zm F1 ?_ ?_ <;> intro C2 F2
 refine zb (za ?_)
 refine s_as ?_
 refine zf (zd ?_)
 refine awp_mvB 9001 9444 10444 [.t (.sc (.int .i64 o2.kind)), .t (.sc (.str o2.name)), .t (.sc (.int .i64 o2.n)), .t (.sl (o2.scopes.map rI)), .ar 10444] ?_
 refine zh (zg (zn ?_))
 cases F2
 exact zl _ [] Tryz.results165
 refine zi (zd (zb ?_))
 refine zW yMix (by kernel_rfl) ?_
 refine zu yA3 ?_
 refine zI yA27 yS27 ?_
 obtain ⟨v3, V3, F3⟩ := zc F2
 refine zv [] (m_impl_FormSize_ok fu _ _ V3) ?_
 refine zN rfl ?_
 refine zac yS3 ?_
 refine zak (by kernel_rfl) ?_
 refine zd (zb ?_)
 refine zW yMix (by kernel_rfl) ?_
 refine s_fa zH ?_
 refine zu yA25 ?_
 refine zI yA27 yS27 ?_
 refine zg5 yU25 ?_
 refine s_bs Form.row [(Form.mk 0 (⟨#[]⟩ : ByteArray) 0 ([] : List Int) ([] : List Form))] yP25 yR27 ?_
 obtain ⟨hk4, F4⟩ := zah F3
 refine zdX Form.row (fun y => Form.row_len y) hk4 yP25 ?_
 obtain ⟨v5, V5, F5⟩ := zc F4
 refine s_ixA Form.row V5 yE25 ?_
 refine s_stA Form.row v1.1 V5 (Form.row_eq _) (Form.row_eq _) yS27 yS27 ?_
 refine s_fa zH ?_
 refine zgK yS25 ?_
 refine zak (by kernel_rfl) ?_
 refine zd (zb (za ?_))
 refine zu yA3 ?_
 refine s_le ?_
 refine s_as ?_
 refine zf (zd ?_)
 refine awp_mvB 9001 26 10444 [.t (.sc (.int .i64 o2.kind)), .t (.sc (.str o2.name)), .t (.sc (.int .i64 o2.n)), .t (.sl (o2.scopes.map rI)), .ar 10444] ?_
 refine zh (zn ?_)
 cases F5
 exact zl _ [] Tryz.results165
theorem m_impl_fill_all (fuel : Nat) : zfd fuel ∧ zfu fuel := by
 induction fuel using Nat.strongRecOn with
 | _ N ih =>
   cases N with
   | zero => exact ⟨(by intro x1 x2 r h; rw [zdL] at h; cases h), (by intro x1 x2 o1 o2 r h; rw [zdD] at h; cases h)⟩
   | succ fu => exact ⟨m_impl_fill_st fu (fun k hk => (ih k (by omega)).1) (fun k hk => (ih k (by omega)).2), m_impl_fill_1_st fu (fun k hk => (ih k (by omega)).1) (fun k hk => (ih k (by omega)).2)⟩
theorem m_impl_fill_ok (fuel : Nat) : zfd fuel := (m_impl_fill_all fuel).1
def m_impl_formOr_AC (fuel : Nat) : Prop := ∀ (x1 : Form) (r : (Form × Bool)), zgx fuel x1 = some r → AC Tryz.prog 110 [.ag [.t (.sc (.int .i64 x1.kind)), .t (.sc (.str x1.name)), .t (.sc (.int .i64 x1.n)), .t (.sl (x1.scopes.map rI)), .t (.sl (x1.kids.map Form.row))]] noOb (.tp [.ag [.t (.sc (.int .i64 r.1.kind)), .t (.sc (.str r.1.name)), .t (.sc (.int .i64 r.1.n)), .t (.sl (r.1.scopes.map rI)), .t (.sl (r.1.kids.map Form.row))], .t (.sc (.bool r.2))]) noOb
theorem m_impl_formOr_ok (fuel : Nat) : m_impl_formOr_AC fuel := by
 intro x1 r F0
 unfold zgx at F0
 refine AC_i [.ag [.t (.sc (.int .i64 r.1.kind)), .t (.sc (.str r.1.name)), .t (.sc (.int .i64 r.1.n)), .t (.sl (r.1.scopes.map rI)), .t (.sl (r.1.kids.map Form.row))], .t (.sc (.bool r.2))] Tryz.func110 rfl Tryz.ntmps110 ?_
 intro C hC
 refine zb (za ?_)
 refine zbf ?_
 refine z6 yZ27 ?_
 refine s_as ?_
 refine zf (zd (zb (zb (za ?_))))
 refine zI yA27 yS27 ?_
 obtain ⟨v1, V1, F1⟩ := zc F0
 refine zv [] (zdj fuel _ _ V1) ?_
 refine zbB ?_
 refine zf (zd ?_)
 refine zm F1 ?_ ?_ <;> intro C2 F2
 refine zb (za ?_)
 refine zeH yZ27 yL27 ?_
 refine zac yS27 ?_
 refine s_as ?_
 refine zf (zd (zh (zg (zn ?_))))
 cases F2
 exact zJ [] [] (by rw [Tryz.results110]; exact (z8 (by conv => lhs; whnf) (by conv => lhs; whnf) yA27 yS27 rfl (zae (by conv => lhs; whnf) zU)))
 refine zi (zd (zb (za ?_)))
 refine zI yA27 yS27 ?_
 obtain ⟨v3, V3, F3⟩ := zc F2
 refine zv [] (zfV fuel _ _ V3) ?_
 refine zac yS27 ?_
 refine s_as ?_
 refine zf (zd (zh (zn ?_)))
 cases F3
 exact zJ [] [] (by rw [Tryz.results110]; exact (z8 (by conv => lhs; whnf) (by conv => lhs; whnf) yA27 yS27 rfl (zae (by conv => lhs; whnf) zU)))
def m_impl_FillTemplate_AC (fuel : Nat) : Prop := ∀ (x1 : Form) (x2 : (List Hit)) (r : (Form × Bool)), zdk fuel x1 x2 = some r → AC Tryz.prog 51 [.ag [.t (.sc (.int .i64 x1.kind)), .t (.sc (.str x1.name)), .t (.sc (.int .i64 x1.n)), .t (.sl (x1.scopes.map rI)), .t (.sl (x1.kids.map Form.row))], .t (.sl (x2.map Hit.row))] noOb (.tp [.ag [.t (.sc (.int .i64 r.1.kind)), .t (.sc (.str r.1.name)), .t (.sc (.int .i64 r.1.n)), .t (.sl (r.1.scopes.map rI)), .t (.sl (r.1.kids.map Form.row))], .t (.sc (.bool r.2))]) noOb
theorem m_impl_FillTemplate_ok (fuel : Nat) : m_impl_FillTemplate_AC fuel := by
 intro x1 x2 r F0
 unfold zdk at F0
 refine AC_i [.ag [.t (.sc (.int .i64 r.1.kind)), .t (.sc (.str r.1.name)), .t (.sc (.int .i64 r.1.n)), .t (.sl (r.1.scopes.map rI)), .t (.sl (r.1.kids.map Form.row))], .t (.sc (.bool r.2))] Tryz.func51 rfl Tryz.ntmps51 ?_
 intro C hC
 refine zb (za ?_)
 refine zbf ?_
 refine z6 yZ27 ?_
 refine s_as ?_
 refine zf (zd (zb (zb (za ?_))))
 refine zI yA27 yS27 ?_
 refine s_mv ?_
 obtain ⟨v1, V1, F1⟩ := zc F0
 refine zv [] (zfW fuel _ _ _ V1) ?_
 refine zbB ?_
 refine zf (zd ?_)
 refine zm F1 ?_ ?_ <;> intro C2 F2
 refine zb (za ?_)
 refine zeH yZ27 yL27 ?_
 refine zac yS27 ?_
 refine s_as ?_
 refine zf (zd (zh (zg (zn ?_))))
 cases F2
 exact zJ [] [] (by rw [Tryz.results51]; exact (z8 (by conv => lhs; whnf) (by conv => lhs; whnf) yA27 yS27 rfl (zae (by conv => lhs; whnf) zU)))
 refine zi (zd (zb (za ?_)))
 refine zI yA27 yS27 ?_
 refine s_mv ?_
 obtain ⟨v3, V3, F3⟩ := zc F2
 refine zv [] (m_impl_fill_ok fuel _ _ _ V3) ?_
 refine s_mv ?_
 refine zct ?_
 refine zct ?_
 refine z6 yZ27 ?_
 refine zac yS27 ?_
 refine s_as ?_
 refine zf (zd (zb (zb (za ?_))))
 refine s_mv ?_
 refine zbB ?_
 refine zf (zd ?_)
 refine zm F3 ?_ ?_ <;> intro C4 F4
 refine zb (za ?_)
 refine zeH yZ27 yL27 ?_
 refine zac yS27 ?_
 refine s_as ?_
 refine zf (zd (zh (zg (zn ?_))))
 cases F4
 exact zJ [] [] (by rw [Tryz.results51]; exact (z8 (by conv => lhs; whnf) (by conv => lhs; whnf) yA27 yS27 rfl (zae (by conv => lhs; whnf) zU)))
 refine zi (zd (zb (za ?_)))
 refine zI yA27 yS27 ?_
 obtain ⟨v5, V5, F5⟩ := zc F4
 refine zv [] (m_impl_formOr_ok fuel _ _ V5) ?_
 refine zct ?_
 refine zct ?_
 refine zac yS27 ?_
 refine s_as ?_
 refine zf (zd (zh (zn ?_)))
 cases F5
 exact zJ [] [] (by rw [Tryz.results51]; exact (z8 (by conv => lhs; whnf) (by conv => lhs; whnf) yA27 yS27 rfl (zae (by conv => lhs; whnf) zU)))
def zcW (fuel : Nat) : Prop := ∀ (x1 : Form) (r : Form), zbF fuel x1 = some r → AC Tryz.prog 111 [.ag [.t (.sc (.int .i64 x1.kind)), .t (.sc (.str x1.name)), .t (.sc (.int .i64 x1.n)), .t (.sl (x1.scopes.map rI)), .t (.sl (x1.kids.map Form.row))]] noOb (.ag [.t (.sc (.int .i64 r.kind)), .t (.sc (.str r.name)), .t (.sc (.int .i64 r.n)), .t (.sl (r.scopes.map rI)), .t (.sl (r.kids.map Form.row))]) noOb
def zcN (fuel : Nat) : Prop := ∀ (x1 : (List Form)) (r : (List Form)), zcJ fuel x1 = some r → AC Tryz.prog 168 [.t (.sl (x1.map Form.row))] noOb (.t (.sl (r.map Form.row))) noOb
theorem m_spec_l15OwnForm_st (fu : Nat) (ih_m_spec_l15OwnForm : ∀ k, k ≤ fu → zcW k) (ih_m_spec_l15OwnListForm : ∀ k, k ≤ fu → zcN k) : zcW (fu + 1) := by
 intro x1 r F0
 rw [zbF] at F0
 refine AC_i [.ag [.t (.sc (.int .i64 r.kind)), .t (.sc (.str r.name)), .t (.sc (.int .i64 r.n)), .t (.sl (r.scopes.map rI)), .t (.sl (r.kids.map Form.row))]] Tryz.func111 rfl Tryz.ntmps111 ?_
 intro C hC
 refine zb (za ?_)
 refine zbf ?_
 refine z6 yZ27 ?_
 refine zf (zd (zb (za ?_)))
 refine s_bs rI ([] : List Int) yP24 yR3 ?_
 refine s_fa ze5 ?_
 refine zu yA24 ?_
 obtain ⟨hk1, F1⟩ := zah F0
 refine zdX rI (fun _ => rfl) hk1 yP24 ?_
 refine s_fa ze5 ?_
 refine zgK yS24 ?_
 refine zf (zd (zb (za ?_)))
 refine s_fa zH ?_
 refine zu yA25 ?_
 obtain ⟨v2, V2, F2⟩ := zc F1
 refine zv [] (ih_m_spec_l15OwnListForm fu (by omega) _ _ V2) ?_
 refine s_fa zH ?_
 refine zgK yS25 ?_
 refine zf (zd (zb (za ?_)))
 refine zI yA27 yS27 ?_
 refine zac yS27 ?_
 refine zf (zd (zh (zn ?_)))
 cases F2
 exact zJ [] [6] (by rw [Tryz.results111]; exact (z8 (by conv => lhs; whnf) (by conv => lhs; whnf) yA27 yS27 rfl zU))
theorem zhc (fu : Nat) (ih_m_spec_l15OwnForm : ∀ k, k ≤ fu → zcW k) (ih_m_spec_l15OwnListForm : ∀ k, k ≤ fu → zcN k) : zcN (fu + 1) := by
 intro x1 r F0
 rw [zcJ] at F0
 refine AC_i [.t (.sl (r.map Form.row))] Tryz.func168 rfl Tryz.ntmps168 ?_
 intro C hC
 refine zb (za ?_)
 refine s_as ?_
 refine zf (zd (zb (za ?_)))
 refine s_bs Form.row ([] : List Form) yP25 yR27 ?_
 refine s_as ?_
 refine zf (zd (zb (zb (za ?_))))
 refine s_mv ?_
 refine zE yU25 ?_
 refine s_mv ?_
 refine zf (zd (zk ?_))
 refine zdG 3 6 5020 (by conv => lhs; whnf) (by conv => lhs; whnf) rfl ?_
 refine zao [3, 5, 9, 10, 11, 12, 13, 14, 15, 16, 17, 18] [5020] [5, 16, 17] [5020] (fun a : Nat × (List Form) × Int => a.1) (fun a : Nat × (List Form) × Int => [(3, .ar 5020), (9, .t (.sc (.int .i64 a.2.2)))]) (fun a : Nat × (List Form) × Int => [(5020, .arr (a.2.1.map Form.row) 27 true)]) (fun a : Nat × (List Form) × Int => a.1 ≤ fu ∧ zaS a.1 x1 a.2.1 a.2.2 = some r ∧ 0 ≤ a.2.2) (fu, ([] : List Form), 0) ⟨Nat.le_refl _, F0, by simp⟩ (by rfl) (by rfl) (fun _ => rfl) (zG (by conv => lhs; whnf) (by rfl) (zG (by conv => lhs; whnf) (by rfl) za3)) (zV (by conv => lhs; whnf) (by rfl) zaU) (zb8 hC rfl) (by repeat (first | exact zag rfl | refine zau rfl ?_ | refine zZ rfl ?_)) (by repeat (first | exact zaI | exact zal rfl | refine zav rfl ?_ | refine z4 rfl ?_)) ?_
 clear F0
 rintro ⟨fu, g1, g2⟩ ⟨hl3, F1, hn_g2⟩
 dsimp only at hl3 F1 hn_g2 ⊢
 obtain _ | fu := fu
 · rw [zaS] at F1; cases F1
 rw [zaS] at F1
 refine zb (za ?_)
 refine s_lt ?_
 refine zf (zd (zb ?_))
 refine zm F1 ?_ ?_ <;> intro C4 F2
 refine zT 0 (fun B5 => ?_)
 refine zi (zd (zb (zk (zb (za ?_)))))
 obtain ⟨v6, V6, F3⟩ := zc F2
 refine zM Form.row V6 (Form.row_eq _) yE25 ?_
 refine zan yA27 yS27 ?_
 refine z6 yZ27 ?_
 refine zac yS27 ?_
 refine zf (zd (za ?_))
 refine s_mv ?_
 refine zI yA27 yS27 ?_
 obtain ⟨v7, V7, F4⟩ := zc F3
 refine zv [] (ih_m_spec_l15OwnForm fu (by omega) _ _ V7) ?_
 refine s_bs Form.row [v7] yP25 yR27 ?_
 obtain ⟨hk8, F5⟩ := zah F4
 refine zdX Form.row (fun y => Form.row_len y) hk8 yP25 ?_
 refine s_as ?_
 refine zf (zX (zd (za ?_)))
 refine zN (zaz C4 B5 hn_g2) ?_
 refine s_mv ?_
 refine zf ?_
 exact s_rn (fu, (g1 ++ [v7]), (g2 + 1)) ⟨by first | omega | (dsimp only; omega), F5, by first | omega | (dsimp only; omega)⟩ [(5020, 17)]
 refine zz (zq (zp (zr (zd (zb (za ?_))))))
 refine s_mv ?_
 refine s_as ?_
 refine zf (zd (zh (zn ?_)))
 cases F2
 exact zl [] [5020] Tryz.results168
theorem m_spec_l15OwnForm_all (fuel : Nat) : zcW fuel ∧ zcN fuel := by
 induction fuel using Nat.strongRecOn with
 | _ N ih =>
   cases N with
   | zero => exact ⟨(by intro x1 r h; rw [zbF] at h; cases h), (by intro x1 r h; rw [zcJ] at h; cases h)⟩
   | succ fu => exact ⟨m_spec_l15OwnForm_st fu (fun k hk => (ih k (by omega)).1) (fun k hk => (ih k (by omega)).2), zhc fu (fun k hk => (ih k (by omega)).1) (fun k hk => (ih k (by omega)).2)⟩
theorem m_spec_l15OwnForm_ok (fuel : Nat) : zcW fuel := (m_spec_l15OwnForm_all fuel).1
def zfL (fuel : Nat) : Prop := ∀ (x1 : Hit) (x2 : Int) (r : Bool), zeK fuel x1 x2 = some r → AC Tryz.prog 193 [.ag [.t (.sc (.int .i64 x1.name.kind)), .t (.sc (.str x1.name.name)), .t (.sc (.int .i64 x1.name.n)), .t (.sl (x1.name.scopes.map rI)), .t (.sl (x1.name.kids.map Form.row)), .t (.sc (.int .i64 x1.depth)), .t (.sc (.int .i64 x1.one.kind)), .t (.sc (.str x1.one.name)), .t (.sc (.int .i64 x1.one.n)), .t (.sl (x1.one.scopes.map rI)), .t (.sl (x1.one.kids.map Form.row)), .t (.sl (x1.many.map Hit.row))], .t (.sc (.int .i64 x2))] noOb (.t (.sc (.bool r))) noOb
theorem m_spec_l4Hit_st (fu : Nat) (ih_m_spec_l4Hit : ∀ k, k ≤ fu → zfL k) : zfL (fu + 1) := by
 intro x1 x2 r F0
 rw [zeK] at F0
 refine AC_i [.t (.sc (.bool r))] Tryz.func193 rfl Tryz.ntmps193 ?_
 intro C hC
 refine zb (za ?_)
 refine zbf ?_
 refine s_as ?_
 refine zf (zd (zb (zb (za ?_))))
 refine s_fa zf0 ?_
 refine zu yA3 ?_
 refine s_mv ?_
 refine s_ne ?_
 refine s_mv ?_
 refine zo _ 10 F0 ?_ ?_ <;> intro C1 F1
 refine r_no rfl (r_no rfl ?_)
 refine zA ?_
 refine s_mv ?_
 refine r_no rfl (r_no rfl ?_)
 refine zA ?_
 refine s_mv ?_
 iterate 4 refine r_no rfl ?_
 refine zA ?_
 refine s_mv ?_
 iterate 4 refine r_no rfl ?_
 refine zA ?_
 refine s_mv ?_
 iterate 4 refine r_no rfl ?_
 refine zA ?_
 refine zf (zd (zO rfl (zb (za ?_))))
 refine s_as ?_
 refine zf (zd (zh (zg (zn ?_))))
 cases F1
 exact zl [] [] Tryz.results193
 refine s_mv ?_
 refine s_lt ?_
 refine zB ?_
 refine s_mv ?_
 refine zo _ 14 F1 ?_ ?_ <;> intro C2 F2
 refine r_no rfl (r_no rfl ?_)
 refine zA ?_
 refine s_mv ?_
 iterate 4 refine r_no rfl ?_
 refine zA ?_
 refine s_mv ?_
 iterate 4 refine r_no rfl ?_
 refine zA ?_
 refine s_mv ?_
 iterate 4 refine r_no rfl ?_
 refine zA ?_
 refine zf (zd (zO rfl (zb (za ?_))))
 refine s_as ?_
 refine zf (zd (zh (zg (zn ?_))))
 cases F2
 exact zl [] [] Tryz.results193
 refine s_mv ?_
 refine s_gt ?_
 refine zB ?_
 refine s_mv ?_
 refine zo _ 18 F2 ?_ ?_ <;> intro C3 F3
 iterate 4 refine r_no rfl ?_
 refine zA ?_
 refine s_mv ?_
 iterate 4 refine r_no rfl ?_
 refine zA ?_
 refine s_mv ?_
 iterate 4 refine r_no rfl ?_
 refine zA ?_
 refine zf (zd (zO rfl (zb (za ?_))))
 refine s_as ?_
 refine zf (zd (zh (zg (zn ?_))))
 cases F3
 exact zl [] [] Tryz.results193
 refine s_fa ze4 ?_
 refine zan yA27 yS27 ?_
 obtain ⟨v4, V4, F4⟩ := zc F3
 refine zv [] (m_spec_l3Is_ok fu _ _ V4) ?_
 refine zbB ?_
 refine zB ?_
 refine s_mv ?_
 refine zo _ 24 F4 ?_ ?_ <;> intro C5 F5
 iterate 4 refine r_no rfl ?_
 refine zA ?_
 refine s_mv ?_
 iterate 4 refine r_no rfl ?_
 refine zA ?_
 refine zf (zd (zO rfl (zb (za ?_))))
 refine s_as ?_
 refine zf (zd (zh (zg (zn ?_))))
 cases F5
 exact zl [] [] Tryz.results193
 refine s_fa ze4 ?_
 refine s_fa zdn ?_
 refine zu yA9 ?_
 refine zg6 ?_
 refine zB ?_
 refine s_mv ?_
 refine zo _ 30 F5 ?_ ?_ <;> intro C6 F6
 iterate 4 refine r_no rfl ?_
 refine zA ?_
 refine zf (zd (zO rfl (zb (za ?_))))
 refine s_as ?_
 refine zf (zd (zh (zg (zn ?_))))
 cases F6
 exact zl [] [] Tryz.results193
 refine s_fa ze4 ?_
 refine s_fa zdn ?_
 refine zu yA9 ?_
 refine zg6 ?_
 refine zB ?_
 refine zf (zd ?_)
 refine zm F6 ?_ ?_ <;> intro C7 F7
 refine zb (za ?_)
 refine s_as ?_
 refine zf (zd (zh (zg (zn ?_))))
 cases F7
 exact zl [] [] Tryz.results193
 refine zi (zd (zb (zb (za ?_))))
 refine s_mv ?_
 refine s_eq ?_
 refine zf (zd ?_)
 refine zm F7 ?_ ?_ <;> intro C8 F8
 refine zb (za ?_)
 refine s_fa yF40_2 ?_
 refine zan yA27 yS27 ?_
 obtain ⟨v9, V9, F9⟩ := zc F8
 refine zv [] (zaK fu _ _ V9) ?_
 refine s_mv ?_
 refine zo _ 41 F9 ?_ ?_ <;> intro C10 F10
 refine s_fa zfA ?_
 refine zu yA30 ?_
 refine zE yU30 ?_
 refine s_eq ?_
 refine zA ?_
 refine s_as ?_
 refine zf (zd (zh (zg (zn ?_))))
 cases F10
 exact zl [] [] Tryz.results193
 iterate 4 refine r_no rfl ?_
 refine zB ?_
 refine s_as ?_
 refine zf (zd (zh (zg (zn ?_))))
 cases F10
 exact zl [] [] Tryz.results193
 refine zi (zd (zb (zb (za ?_))))
 refine s_as ?_
 refine zf (zd (zk ?_))
 refine za1 (β := Int) [4, 5, 47, 48, 49, 50, 51, 52, 53, 54, 55, 56, 57, 58, 59, 60, 61, 62, 63, 64, 65, 66, 67, 68, 69, 70, 71, 72, 73, 74] [] [] (fun a => [(5, .t (.sc (.int .i64 a.2)))]) (fun a => []) (fun a => a.1 ≤ fu ∧ zcI a.1 x1 x2 a.2 = some r ∧ 0 ≤ a.2) (fu, 0) ⟨Nat.le_refl _, F8, by simp⟩ ?_
 clear F8
 rintro ⟨fu, g11⟩ ⟨hl12, F9, hn_g11⟩
 dsimp only at hl12 F9 hn_g11 ⊢
 obtain _ | fu := fu
 · rw [zcI] at F9; cases F9
 rw [zcI] at F9
 refine zb (zb (za ?_))
 refine s_mv ?_
 refine s_fa zfA ?_
 refine zu yA30 ?_
 refine zE yU30 ?_
 refine s_lt ?_
 refine zf (zd ?_)
 refine zm F9 ?_ ?_ <;> intro C13 F10
 refine zT 49 (fun B14 => ?_)
 refine zi (zd (zb (zk (zb ?_))))
 refine zW yMix (by kernel_rfl) ?_
 refine s_fa zfA ?_
 refine zu yA30 ?_
 refine s_mv ?_
 obtain ⟨v15, V15, F11⟩ := zc F10
 refine zM Hit.row V15 (Hit.row_eq _) yE30 ?_
 refine s_fa ze4 ?_
 refine zan yA27 yS27 ?_
 refine s_fa ze4 ?_
 refine zan yA27 yS27 ?_
 obtain ⟨v16, V16, F12⟩ := zc F11
 refine zv [] (zb3 fu _ _ _ V16) ?_
 refine zbB ?_
 refine s_mv ?_
 refine zo _ 64 F12 ?_ ?_ <;> intro C17 F13
 iterate 9 refine r_no rfl ?_
 refine zA ?_
 refine zak (by kernel_rfl) ?_
 refine zd (zO rfl (zb (za ?_)))
 refine s_as ?_
 refine zf (zd (zh (zj (zg (zx (zj (zg (zn ?_))))))))
 cases F13
 exact zl [] [] Tryz.results193
 refine s_fa zfA ?_
 refine zu yA30 ?_
 refine s_mv ?_
 obtain ⟨v18, V18, F14⟩ := zc F13
 refine zM Hit.row V18 (Hit.row_eq _) yE30 ?_
 refine zan yA40 yS40 ?_
 refine s_mv ?_
 refine zg4 rfl ?_
 obtain ⟨v19, V19, F15⟩ := zc F14
 refine zv [] (ih_m_spec_l4Hit fu (by omega) _ _ _ V19) ?_
 refine zbB ?_
 refine zB ?_
 refine zak (by kernel_rfl) ?_
 refine zd ?_
 refine zm F15 ?_ ?_ <;> intro C20 F16
 refine zb (za ?_)
 refine s_as ?_
 refine zf (zd (zh (zj (zg (zx (zj (zg (zn ?_))))))))
 cases F16
 exact zl [] [] Tryz.results193
 refine zi (zX (zd (za ?_)))
 refine s_mv ?_
 refine zN (zaz C13 B14 hn_g11) ?_
 refine s_as ?_
 refine zf ?_
 exact s_rn (fu, (g11 + 1)) ⟨by first | omega | (dsimp only; omega), F16, by first | omega | (dsimp only; omega)⟩
 refine zz (zq (zp (zr (zd (zb (za ?_))))))
 refine s_fa yF40_2 ?_
 refine zan yA27 yS27 ?_
 refine zeH yZ27 yL27 ?_
 obtain ⟨v21, V21, F11⟩ := zc F10
 refine zv [] (zb3 fu _ _ _ V21) ?_
 refine s_mv ?_
 refine zo _ 79 F11 ?_ ?_ <;> intro C22 F12
 refine s_fa zfA ?_
 refine zu yA30 ?_
 refine zE yU30 ?_
 refine s_le ?_
 refine zA ?_
 refine s_as ?_
 refine zf (zd (zh (zn ?_)))
 cases F12
 exact zl [] [] Tryz.results193
 iterate 4 refine r_no rfl ?_
 refine zB ?_
 refine s_as ?_
 refine zf (zd (zh (zn ?_)))
 cases F12
 exact zl [] [] Tryz.results193
theorem m_spec_l4Hit_all (fuel : Nat) : zfL fuel := by
 induction fuel using Nat.strongRecOn with
 | _ N ih =>
   cases N with
   | zero => exact (by intro x1 x2 r h; rw [zeK] at h; cases h)
   | succ fu => exact m_spec_l4Hit_st fu (fun k hk => (ih k (by omega)))
theorem m_spec_l4Hit_ok (fuel : Nat) : zfL fuel := (m_spec_l4Hit_all fuel)
def m_spec_HitsValid_AC (fuel : Nat) : Prop := ∀ (x1 : (List Hit)) (r : Bool), zen fuel x1 = some r → AC Tryz.prog 169 [.t (.sl (x1.map Hit.row))] noOb (.t (.sc (.bool r))) noOb
theorem m_spec_HitsValid_ok (fuel : Nat) : m_spec_HitsValid_AC fuel := by
 intro x1 r F0
 unfold zen at F0
 refine AC_i [.t (.sc (.bool r))] Tryz.func169 rfl Tryz.ntmps169 ?_
 intro C hC
 refine zb (za ?_)
 refine s_as ?_
 refine zf (zd (zb (zb (za ?_))))
 refine s_as ?_
 refine zf (zd (zk ?_))
 refine za1 (β := Int) [2, 3, 4, 5, 6, 7, 8, 9, 10, 11, 12, 13, 14, 15, 16, 17, 18, 19, 20, 21, 22, 23, 24, 25, 26, 27, 28, 29, 30, 31, 32, 33, 34, 35, 36, 37, 38, 39, 40, 41] [] [] (fun a => [(2, .t (.sc (.bool false))), (3, .t (.sc (.int .i64 a.2)))]) (fun a => []) (fun a => a.1 ≤ fuel ∧ zbs a.1 x1 a.2 = some r) (fuel, 0) ⟨Nat.le_refl _, F0⟩ ?_
 clear F0
 rintro ⟨fu, g1⟩ ⟨hl2, F1⟩
 dsimp only at hl2 F1 ⊢
 obtain _ | fu := fu
 · rw [zbs] at F1; cases F1
 rw [zbs] at F1
 refine zb (zb (za ?_))
 refine s_mv ?_
 refine s_mv ?_
 refine zE yU30 ?_
 refine s_lt ?_
 refine s_mv ?_
 refine zo _ 9 F1 ?_ ?_ <;> intro C3 F2
 refine s_mv ?_
 refine s_le ?_
 refine zA ?_
 refine zf (zd ?_)
 refine zm F2 ?_ ?_ <;> intro C4 F3
 refine zi (zd (zb (zk (zb (zb ?_)))))
 refine zW yMix (by kernel_rfl) ?_
 refine s_mv ?_
 refine s_mv ?_
 obtain ⟨v5, V5, F4⟩ := zc F3
 refine zM Hit.row V5 (Hit.row_eq _) yE30 ?_
 refine zan yA40 yS40 ?_
 refine s_mv ?_
 refine s_mv ?_
 obtain ⟨v6, V6, F5⟩ := zc F4
 refine zM Hit.row V6 (Hit.row_eq _) yE30 ?_
 refine s_fa zf0 ?_
 refine zu yA3 ?_
 obtain ⟨v7, V7, F6⟩ := zc F5
 refine zv [] (m_spec_l4Hit_ok fu _ _ _ V7) ?_
 refine zbB ?_
 refine zak (by kernel_rfl) ?_
 refine zd ?_
 refine zm F6 ?_ ?_ <;> intro C8 F7
 refine zb (za ?_)
 refine s_as ?_
 refine zf (zd (zh (zg (zj (zg (zx (zj (zg (zn ?_)))))))))
 cases F7
 exact zl [] [] Tryz.results169
 refine zi (zd (zb (za ?_)))
 refine s_as ?_
 refine zf (zd (zk ?_))
 refine za1 (β := Int) [2, 4, 26, 27, 28, 29, 30, 31, 32, 33, 34, 35, 36, 37, 38, 39, 40, 41] [] [] (fun a => [(2, .t (.sc (.bool false))), (4, .t (.sc (.int .i64 a.2)))]) (fun a => []) (fun a => a.1 ≤ fu ∧ zbr a.1 x1 g1 a.2 = some r) (fu, 0) ⟨Nat.le_refl _, F7⟩ ?_
 clear F7
 rintro ⟨fu, g9⟩ ⟨hl10, F8⟩
 dsimp only at hl10 F8 ⊢
 obtain _ | fu := fu
 · rw [zbr] at F8; cases F8
 rw [zbr] at F8
 refine zb (zb (za ?_))
 refine s_mv ?_
 refine s_mv ?_
 refine s_lt ?_
 refine zf (zd ?_)
 refine zm F8 ?_ ?_ <;> intro C11 F9
 refine zi (zd (zb (zk (zb ?_))))
 refine zW yMix (by kernel_rfl) ?_
 refine s_mv ?_
 refine s_mv ?_
 obtain ⟨v12, V12, F10⟩ := zc F9
 refine zM Hit.row V12 (Hit.row_eq _) yE30 ?_
 refine s_fa ze4 ?_
 refine zan yA27 yS27 ?_
 refine s_mv ?_
 refine s_mv ?_
 obtain ⟨v13, V13, F11⟩ := zc F10
 refine zM Hit.row V13 (Hit.row_eq _) yE30 ?_
 refine s_fa ze4 ?_
 refine zan yA27 yS27 ?_
 obtain ⟨v14, V14, F12⟩ := zc F11
 refine zv [] (zb3 fu _ _ _ V14) ?_
 refine zak (by kernel_rfl) ?_
 refine zd ?_
 refine zm F12 ?_ ?_ <;> intro C15 F13
 refine zb (za ?_)
 refine s_as ?_
 refine zf (zd (zh (zj (zg (zx (zj (zj (zg (zx (zj (zg (zn ?_))))))))))))
 cases F13
 exact zl [] [] Tryz.results169
 refine zi (zX (zd (za ?_)))
 refine s_mv ?_
 refine zN rfl ?_
 refine s_as ?_
 refine zf ?_
 exact s_rn (fu, (w64 (g9 + 1))) ⟨by first | omega | (dsimp only; omega), F13⟩
 refine zz (zq (zp (zr (zX (zd (za ?_))))))
 refine s_mv ?_
 refine zN rfl ?_
 refine s_as ?_
 refine zf ?_
 exact s_rn (fu, (w64 (g1 + 1))) ⟨by first | omega | (dsimp only; omega), F9⟩
 refine zz (zq (zp (zr (zd (zb (za ?_))))))
 refine s_mv ?_
 refine zE yU30 ?_
 refine s_le ?_
 refine s_as ?_
 refine zf (zd (zh (zn ?_)))
 cases F3
 exact zl [] [] Tryz.results169
 refine r_no rfl (r_no rfl ?_)
 refine zB ?_
 refine zf (zd (zaM rfl (zz (zq (zp (zr (zd (zb (za ?_)))))))))
 refine s_mv ?_
 refine zE yU30 ?_
 refine s_le ?_
 refine s_as ?_
 refine zf (zd (zh (zn ?_)))
 cases F2
 exact zl [] [] Tryz.results169
def zht (fuel : Nat) : Prop := ∀ (x1 : Form) (x2 : (List Hit)) (r : Bool), zcX fuel x1 x2 = some r → AC Tryz.prog 112 [.ag [.t (.sc (.int .i64 x1.kind)), .t (.sc (.str x1.name)), .t (.sc (.int .i64 x1.n)), .t (.sl (x1.scopes.map rI)), .t (.sl (x1.kids.map Form.row))], .t (.sl (x2.map Hit.row))] noOb (.t (.sc (.bool r))) noOb
theorem zhs (fuel : Nat) : zht fuel := by
 intro x1 x2 r F0
 unfold zcX at F0
 refine AC_i [.t (.sc (.bool r))] Tryz.func112 rfl Tryz.ntmps112 ?_
 intro C hC
 refine zb (za ?_)
 refine zbf ?_
 refine s_as ?_
 refine zf (zd (zb (za ?_)))
 refine zI yA27 yS27 ?_
 obtain ⟨v1, V1, F1⟩ := zc F0
 refine zv [] (zaK fuel _ _ V1) ?_
 refine s_mv ?_
 refine zo _ 7 F1 ?_ ?_ <;> intro C2 F2
 refine s_mv ?_
 obtain ⟨v3, V3, F3⟩ := zc F2
 refine zv [] (m_spec_HitsValid_ok fuel _ _ V3) ?_
 refine zA ?_
 refine s_mv ?_
 refine zo _ 11 F3 ?_ ?_ <;> intro C4 F4
 refine zI yA27 yS27 ?_
 refine s_mv ?_
 obtain ⟨v5, V5, F5⟩ := zc F4
 refine zv [] (m_spec_l5Is_ok fuel _ _ _ V5) ?_
 refine zA ?_
 refine s_as ?_
 refine zf (zd (zh (zn ?_)))
 cases F5
 exact zl [] [] Tryz.results112
 iterate 3 refine r_no rfl ?_
 refine zB ?_
 refine s_as ?_
 refine zf (zd (zh (zn ?_)))
 cases F4
 exact zl [] [] Tryz.results112
 refine r_no rfl (r_no rfl ?_)
 refine zB ?_
 refine s_mv ?_
 iterate 3 refine r_no rfl ?_
 refine zB ?_
 refine s_as ?_
 refine zf (zd (zh (zn ?_)))
 cases F2
 exact zl [] [] Tryz.results112
def zfg (fuel : Nat) : Prop := ∀ (x1 : Form) (x2 : Form) (r : Bool), zdv fuel x1 x2 = some r → AC Tryz.prog 197 [.ag [.t (.sc (.int .i64 x1.kind)), .t (.sc (.str x1.name)), .t (.sc (.int .i64 x1.n)), .t (.sl (x1.scopes.map rI)), .t (.sl (x1.kids.map Form.row))], .ag [.t (.sc (.int .i64 x2.kind)), .t (.sc (.str x2.name)), .t (.sc (.int .i64 x2.n)), .t (.sl (x2.scopes.map rI)), .t (.sl (x2.kids.map Form.row))]] noOb (.t (.sc (.bool r))) noOb
theorem m_spec_l5Uses_st (fu : Nat) (ih_m_spec_l5Uses : ∀ k, k ≤ fu → zfg k) : zfg (fu + 1) := by
 intro x1 x2 r F0
 rw [zdv] at F0
 refine AC_i [.t (.sc (.bool r))] Tryz.func197 rfl Tryz.ntmps197 ?_
 intro C hC
 refine zb (za ?_)
 refine zbf ?_
 refine zbf ?_
 refine s_as ?_
 refine zf (zd ?_)
 refine zbk (α := Nat) [4, 6, 7, 8, 9, 10, 11, 12, 13] [] [] (fun a => []) (fun a => []) (fun a => a ≤ fu ∧ zcO a x1 x2  = some r) ?_ ?_
 refine zb (za ?_)
 refine s_fa zc2 ?_
 refine zu yA3 ?_
 refine s_eq ?_
 refine s_mv ?_
 refine zo _ 9 F0 ?_ ?_ <;> intro C1 F1
 refine zI yA27 yS27 ?_
 refine zI yA27 yS27 ?_
 obtain ⟨v2, V2, F2⟩ := zc F1
 refine zv [] (zb3 fu _ _ _ V2) ?_
 refine zA ?_
 refine zf (zd ?_)
 refine zm F2 ?_ ?_ <;> intro C3 F3
 refine zb (za ?_)
 refine s_as ?_
 refine zf (zd (zh (ze2 (zn ?_))))
 cases F3
 exact zl [] [] Tryz.results197
 refine zi ?_
 exact s_jn (fu) ⟨by first | omega | (dsimp only; omega), F3⟩
 iterate 3 refine r_no rfl ?_
 refine zB ?_
 refine zf (zd (zaM rfl (zi ?_)))
 exact s_jn (fu) ⟨by first | omega | (dsimp only; omega), F1⟩
 clear F0
 rintro fu ⟨hl4, F1⟩
 obtain _ | fu := fu
 · rw [zcO] at F1; cases F1
 rw [zcO] at F1
 refine zb (zb (za ?_))
 refine s_as ?_
 refine zf (zd (zk ?_))
 refine za1 (β := Int) [4, 5, 14, 15, 16, 17, 18, 19, 20, 21, 22, 23, 24, 25, 26, 27] [] [] (fun a => [(5, .t (.sc (.int .i64 a.2)))]) (fun a => []) (fun a => a.1 ≤ fu ∧ zcb a.1 x1 x2 a.2 = some r ∧ 0 ≤ a.2) (fu, 0) ⟨Nat.le_refl _, F1, by simp⟩ ?_
 clear F1
 rintro ⟨fu, g5⟩ ⟨hl6, F2, hn_g5⟩
 dsimp only at hl6 F2 hn_g5 ⊢
 obtain _ | fu := fu
 · rw [zcb] at F2; cases F2
 rw [zcb] at F2
 refine zb (zb (za ?_))
 refine s_mv ?_
 refine s_fa zH ?_
 refine zu yA25 ?_
 refine zE yU25 ?_
 refine s_lt ?_
 refine zf (zd ?_)
 refine zm F2 ?_ ?_ <;> intro C7 F3
 refine zT 16 (fun B8 => ?_)
 refine zi (zd (zb (zk (zb ?_))))
 refine zW yMix (by kernel_rfl) ?_
 refine s_fa zH ?_
 refine zu yA25 ?_
 refine s_mv ?_
 obtain ⟨v9, V9, F4⟩ := zc F3
 refine zM Form.row V9 (Form.row_eq _) yE25 ?_
 refine zan yA27 yS27 ?_
 refine zI yA27 yS27 ?_
 obtain ⟨v10, V10, F5⟩ := zc F4
 refine zv [] (ih_m_spec_l5Uses fu (by omega) _ _ _ V10) ?_
 refine zak (by kernel_rfl) ?_
 refine zd ?_
 refine zm F5 ?_ ?_ <;> intro C11 F6
 refine zb (za ?_)
 refine s_as ?_
 refine zf (zd (zh (zj (zg (zx (zj (zg (zn ?_))))))))
 cases F6
 exact zl [] [] Tryz.results197
 refine zi (zX (zd (za ?_)))
 refine s_mv ?_
 refine zN (zaz C7 B8 hn_g5) ?_
 refine s_as ?_
 refine zf ?_
 exact s_rn (fu, (g5 + 1)) ⟨by first | omega | (dsimp only; omega), F6, by first | omega | (dsimp only; omega)⟩
 refine zz (zq (zp (zr (zd (zb (za ?_))))))
 refine s_as ?_
 refine zf (zd (zh (zn ?_)))
 cases F3
 exact zl [] [] Tryz.results197
theorem m_spec_l5Uses_all (fuel : Nat) : zfg fuel := by
 induction fuel using Nat.strongRecOn with
 | _ N ih =>
   cases N with
   | zero => exact (by intro x1 x2 r h; rw [zdv] at h; cases h)
   | succ fu => exact m_spec_l5Uses_st fu (fun k hk => (ih k (by omega)))
theorem m_spec_l5Uses_ok (fuel : Nat) : zfg fuel := (m_spec_l5Uses_all fuel)
def m_spec_l5Count_AC (fuel : Nat) : Prop := ∀ (x1 : Form) (x2 : (List Hit)) (r : Int), ze8 fuel x1 x2 = some r → AC Tryz.prog 172 [.ag [.t (.sc (.int .i64 x1.kind)), .t (.sc (.str x1.name)), .t (.sc (.int .i64 x1.n)), .t (.sl (x1.scopes.map rI)), .t (.sl (x1.kids.map Form.row))], .t (.sl (x2.map Hit.row))] noOb (.t (.sc (.int .i64 r))) noOb
theorem m_spec_l5Count_ok (fuel : Nat) : m_spec_l5Count_AC fuel := by
 intro x1 x2 r F0
 unfold ze8 at F0
 refine AC_i [.t (.sc (.int .i64 r))] Tryz.func172 rfl Tryz.ntmps172 ?_
 intro C hC
 refine zb (za ?_)
 refine zbf ?_
 refine s_as ?_
 refine zf (zd (zb (za ?_)))
 refine s_as ?_
 refine zf (zd (zb (zb (za ?_))))
 refine s_as ?_
 refine zf (zd (zk ?_))
 refine za1 (β := Int × Int) [4, 5, 6, 7, 8, 9, 10, 11, 12, 13, 14, 15, 16, 17, 18, 19, 20, 21, 22, 23, 24, 25, 26, 27, 28, 29, 30, 31, 32, 33, 34, 35, 36, 37, 38, 39, 40, 41, 42, 43, 44, 45, 46] [] [] (fun a => [(5, .t (.sc (.int .i64 a.2.2))), (6, .t (.sc (.int .i64 a.2.1)))]) (fun a => []) (fun a => a.1 ≤ fuel ∧ zbD a.1 x1 x2 a.2.1 a.2.2 = some r ∧ 0 ≤ a.2.1) (fuel, 0, (-1)) ⟨Nat.le_refl _, F0, by simp⟩ ?_
 clear F0
 rintro ⟨fu, g1, g2⟩ ⟨hl3, F1, hn_g1⟩
 dsimp only at hl3 F1 hn_g1 ⊢
 obtain _ | fu := fu
 · rw [zbD] at F1; cases F1
 rw [zbD] at F1
 refine zb (zb (za ?_))
 refine s_mv ?_
 refine s_mv ?_
 refine zE yU30 ?_
 refine s_lt ?_
 refine zf (zd ?_)
 refine zm F1 ?_ ?_ <;> intro C4 F2
 refine zT 1 (fun B5 => ?_)
 refine zi (zd (zb (zk (zb ?_))))
 refine zbk (α := Nat × Bool) [13, 14, 15, 16, 17, 18, 19, 20, 21, 22, 23, 24, 25, 26, 27, 28] [] [] (fun a => [(28, .t (.sc (.bool a.2)))]) (fun a => []) (fun a => a.1 ≤ fu ∧ zbX a.1 x1 x2 g1 g2 a.2 = some r) ?_ ?_
 refine zW yMix (by kernel_rfl) ?_
 refine s_mv ?_
 refine s_mv ?_
 obtain ⟨v6, V6, F3⟩ := zc F2
 refine zM Hit.row V6 (Hit.row_eq _) yE30 ?_
 refine s_fa zf0 ?_
 refine zu yA3 ?_
 refine s_eq ?_
 refine s_mv ?_
 refine zo _ 19 F3 ?_ ?_ <;> intro C7 F4
 iterate 8 refine r_no rfl ?_
 refine zA ?_
 refine zak (by kernel_rfl) ?_
 exact s_jn (fu, true) ⟨by first | omega | (dsimp only; omega), F4⟩
 refine zI yA27 yS27 ?_
 refine s_mv ?_
 refine s_mv ?_
 obtain ⟨v8, V8, F5⟩ := zc F4
 refine zM Hit.row V8 (Hit.row_eq _) yE30 ?_
 refine s_fa ze4 ?_
 refine zan yA27 yS27 ?_
 obtain ⟨v9, V9, F6⟩ := zc F5
 refine zv [] (m_spec_l5Uses_ok fu _ _ _ V9) ?_
 refine zbB ?_
 refine zB ?_
 refine zak (by kernel_rfl) ?_
 exact s_jn (fu, (!v9)) ⟨by first | omega | (dsimp only; omega), F6⟩
 clear F2
 rintro ⟨fu, g10⟩ ⟨hl11, F3⟩
 dsimp only at hl11 F3 ⊢
 obtain _ | fu := fu
 · rw [zbX] at F3; cases F3
 rw [zbX] at F3
 refine zm F3 ?_ ?_ <;> intro C12 F4
 refine zz (zq (zr (zd (za ?_))))
 refine s_mv ?_
 refine zN (zaz C4 B5 hn_g1) ?_
 refine s_as ?_
 refine zf ?_
 exact s_rn (fu, (g1 + 1), g2) ⟨by first | omega | (dsimp only; omega), F4, by first | omega | (dsimp only; omega)⟩
 refine zi (zd ?_)
 refine zbk (α := Nat) [4, 29, 30, 31, 32, 33, 34, 35, 36, 37, 38, 39, 40] [] [] (fun a => []) (fun a => []) (fun a => a ≤ fu ∧ zcu a x1 x2 g1  = some r) ?_ ?_
 refine zb (za ?_)
 refine s_mv ?_
 refine s_ge ?_
 refine s_mv ?_
 refine zo _ 31 F4 ?_ ?_ <;> intro C13 F5
 iterate 3 refine s_mv ?_
 obtain ⟨v14, V14, F6⟩ := zc F5
 refine zM Hit.row V14 (Hit.row_eq _) yE30 ?_
 refine s_fa zfA ?_
 refine zu yA30 ?_
 refine zE yU30 ?_
 refine s_ne ?_
 refine zA ?_
 refine zf (zd ?_)
 refine zm F6 ?_ ?_ <;> intro C15 F7
 refine zb (za ?_)
 refine s_as ?_
 refine zf (zd (zh (ze2 (zj (zg (zx (zj (zg (zn ?_)))))))))
 cases F7
 exact zl [] [] Tryz.results172
 refine zi ?_
 exact s_jn (fu) ⟨by first | omega | (dsimp only; omega), F7⟩
 iterate 8 refine r_no rfl ?_
 refine zB ?_
 refine zf (zd (zaM rfl (zi ?_)))
 exact s_jn (fu) ⟨by first | omega | (dsimp only; omega), F5⟩
 clear F4
 rintro fu ⟨hl16, F5⟩
 obtain _ | fu := fu
 · rw [zcu] at F5; cases F5
 rw [zcu] at F5
 refine za ?_
 refine s_mv ?_
 refine s_mv ?_
 obtain ⟨v17, V17, F6⟩ := zc F5
 refine zM Hit.row V17 (Hit.row_eq _) yE30 ?_
 refine s_fa zfA ?_
 refine zu yA30 ?_
 refine zE yU30 ?_
 refine s_as ?_
 refine zf (zX (zd (za ?_)))
 refine s_mv ?_
 refine zN (zaz C4 B5 hn_g1) ?_
 refine s_as ?_
 refine zf ?_
 exact s_rn (fu, (g1 + 1), (v17.many.length : Int)) ⟨by first | omega | (dsimp only; omega), F6, by first | omega | (dsimp only; omega)⟩
 refine zz (zq (zp (zr (zd (zb (za ?_))))))
 refine s_mv ?_
 refine s_as ?_
 refine zf (zd (zh (zn ?_)))
 cases F2
 exact zl [] [] Tryz.results172
def m_spec_l5Nth_AC (fuel : Nat) : Prop := ∀ (x1 : Form) (x2 : (List Hit)) (x3 : Int) (r : (List Hit)), zfB fuel x1 x2 x3 = some r → AC Tryz.prog 173 [.ag [.t (.sc (.int .i64 x1.kind)), .t (.sc (.str x1.name)), .t (.sc (.int .i64 x1.n)), .t (.sl (x1.scopes.map rI)), .t (.sl (x1.kids.map Form.row))], .t (.sl (x2.map Hit.row)), .t (.sc (.int .i64 x3))] noOb (.t (.sl (r.map Hit.row))) noOb
theorem m_spec_l5Nth_ok (fuel : Nat) : m_spec_l5Nth_AC fuel := by
 intro x1 x2 x3 r F0
 unfold zfB at F0
 refine AC_i [.t (.sl (r.map Hit.row))] Tryz.func173 rfl Tryz.ntmps173 ?_
 intro C hC
 refine zb (za ?_)
 refine zbf ?_
 refine s_as ?_
 refine zf (zd (zb (za ?_)))
 refine s_bs Hit.row ([] : List Hit) yP30 yR40 ?_
 refine s_as ?_
 refine zf (zd (zb (zb (za ?_))))
 refine s_as ?_
 refine zf (zd (zk ?_))
 refine zdG 7 10 5020 (by conv => lhs; whnf) (by conv => lhs; whnf) rfl ?_
 refine zao [7, 8, 9, 11, 12, 13, 14, 15, 16, 17, 18, 19, 20, 21, 22, 23, 24, 25, 26, 27, 28, 29, 30, 31, 32, 33, 34, 35, 36, 37, 38] [5020] [9, 37, 38] [5020] (fun a : Nat × (List Hit) × Int => a.1) (fun a : Nat × (List Hit) × Int => [(7, .ar 5020), (8, .t (.sc (.int .i64 a.2.2)))]) (fun a : Nat × (List Hit) × Int => [(5020, .arr (a.2.1.map Hit.row) 40 true)]) (fun a : Nat × (List Hit) × Int => a.1 ≤ fuel ∧ zb2 a.1 x1 x2 x3 a.2.1 a.2.2 = some r ∧ 0 ≤ a.2.2) (fuel, ([] : List Hit), 0) ⟨Nat.le_refl _, F0, by simp⟩ (by rfl) (by rfl) (fun _ => rfl) (zG (by conv => lhs; whnf) (by rfl) (zG (by conv => lhs; whnf) (by rfl) za3)) (zV (by conv => lhs; whnf) (by rfl) zaU) (zb8 hC rfl) (by repeat (first | exact zag rfl | refine zau rfl ?_ | refine zZ rfl ?_)) (by repeat (first | exact zaI | exact zal rfl | refine zav rfl ?_ | refine z4 rfl ?_)) ?_
 clear F0
 rintro ⟨fu, g1, g2⟩ ⟨hl3, F1, hn_g2⟩
 dsimp only at hl3 F1 hn_g2 ⊢
 obtain _ | fu := fu
 · rw [zb2] at F1; cases F1
 rw [zb2] at F1
 refine zb (zb (za ?_))
 refine s_mv ?_
 refine s_mv ?_
 refine zE yU30 ?_
 refine s_lt ?_
 refine zf (zd ?_)
 refine zm F1 ?_ ?_ <;> intro C4 F2
 refine zT 1 (fun B5 => ?_)
 refine zi (zd (zb (zk (zb (za ?_)))))
 refine s_mv ?_
 refine s_mv ?_
 obtain ⟨v6, V6, F3⟩ := zc F2
 refine zM Hit.row V6 (Hit.row_eq _) yE30 ?_
 refine zan yA40 yS40 ?_
 refine z6 yZ40 ?_
 refine zac yS40 ?_
 refine zf (zd (zb ?_))
 refine zbk (α := Nat × Bool) [21, 22, 23, 24, 25, 26, 27, 28, 29] [] [] (fun a => [(29, .t (.sc (.bool a.2)))]) (fun a => []) (fun a => a.1 ≤ fu ∧ zcF a.1 x1 x2 x3 g1 g2 v6 a.2 = some r) ?_ ?_
 refine za ?_
 refine s_fa zf0 ?_
 refine zu yA3 ?_
 refine s_gt ?_
 refine s_mv ?_
 refine zo _ 24 F3 ?_ ?_ <;> intro C7 F4
 refine zI yA27 yS27 ?_
 refine s_fa ze4 ?_
 refine zan yA27 yS27 ?_
 obtain ⟨v8, V8, F5⟩ := zc F4
 refine zv [] (m_spec_l5Uses_ok fu _ _ _ V8) ?_
 refine zA ?_
 refine zf ?_
 exact s_jn (fu, v8) ⟨by first | omega | (dsimp only; omega), F5⟩
 iterate 4 refine r_no rfl ?_
 refine zB ?_
 refine zf ?_
 exact s_jn (fu, false) ⟨by first | omega | (dsimp only; omega), F4⟩
 clear F3
 rintro ⟨fu, g9⟩ ⟨hl10, F4⟩
 dsimp only at hl10 F4 ⊢
 obtain _ | fu := fu
 · rw [zcF] at F4; cases F4
 rw [zcF] at F4
 refine zm F4 ?_ ?_ <;> intro C11 F5
 refine za ?_
 refine s_fa zfA ?_
 refine zu yA30 ?_
 refine s_mv ?_
 obtain ⟨v12, V12, F6⟩ := zc F5
 refine zM Hit.row V12 (Hit.row_eq _) yE30 ?_
 refine zan yA40 yS40 ?_
 refine zac yS40 ?_
 refine zf (zd (za ?_))
 refine s_mv ?_
 refine zI yA40 yS40 ?_
 refine s_bs Hit.row [v12] yP30 yR40 ?_
 obtain ⟨hk13, F7⟩ := zah F6
 refine zdX Hit.row (fun y => Hit.row_len y) hk13 yP30 ?_
 refine s_as ?_
 refine zf (zX (zd (za ?_)))
 refine s_mv ?_
 refine zN (zaz C4 B5 hn_g2) ?_
 refine s_as ?_
 refine zf ?_
 exact s_rn (fu, (g1 ++ [v12]), (g2 + 1)) ⟨by first | omega | (dsimp only; omega), F7, by first | omega | (dsimp only; omega)⟩ [(5020, 38)]
 refine zi (zd (za ?_))
 refine s_mv ?_
 refine zI yA40 yS40 ?_
 refine s_bs Hit.row [v6] yP30 yR40 ?_
 obtain ⟨hk14, F6⟩ := zah F5
 refine zdX Hit.row (fun y => Hit.row_len y) hk14 yP30 ?_
 refine s_as ?_
 refine zf (zX (zd (za ?_)))
 refine s_mv ?_
 refine zN (zaz C4 B5 hn_g2) ?_
 refine s_as ?_
 refine zf ?_
 exact s_rn (fu, (g1 ++ [v6]), (g2 + 1)) ⟨by first | omega | (dsimp only; omega), F6, by first | omega | (dsimp only; omega)⟩ [(5020, 38)]
 refine zz (zq (zp (zr (zd (zb (za ?_))))))
 refine s_mv ?_
 refine s_as ?_
 refine zf (zd (zh (zn ?_)))
 cases F2
 exact zl [] [5020] Tryz.results173
end Go.Abs
