/- A part of the proof: what the functions that the law calls answer, as pure values. -/
import Derived.Test.YtcebadpiebamdaaGreatKe288b2d436cc
import Derived.Test.YtcebadpiebamdaaGreatK084892eefba9
import Derived.Test.YtcebadpiebamdaaGreatKfbd980a3bd19
import Derived.Test.YtcebadpiebamdaaGreatK446f49137ed5
import Derived.Test.YtcebadpiebamdaaGreatKa582fa74ce31
import Derived.Test.YtcebadpiebamdaaGreatKcd36416719db
import Derived.Test.YtcebadpiebamdaaGreatKf37186a4b7f9
import Derived.Test.YtcebadpiebamdaaGreatKf10ec3e12462
import Derived.Test.YtcebadpiebamdaaGreatKf8de2f3a577a
import Derived.Test.YtcebadpiebamdaaGreatKed81ee324dc2
set_option linter.unusedSimpArgs false
set_option linter.unusedVariables false
set_option maxRecDepth 100000
set_option maxHeartbeats 4000000
namespace Go.Abs
open Go.Proofs
def m_laws_heldMacro_AC (fuel : Nat) : Prop := ∀ (x1 : zq) (x2 : Int) (r : Int), zdb fuel x1 x2 = some r → AC Tryz.prog 31 [.ag [.t (.sc (.int .i64 x1.id)), .t (.sl (x1.literals.map Form.row)), .t (.sl (x1.rules.map Rule.row))], .t (.sc (.int .i64 x2))] noOb (.t (.sc (.int .i64 r))) noOb
theorem zgA (fuel : Nat) : m_laws_heldMacro_AC fuel := by
 intro x1 x2 r F0
 unfold zdb at F0
 refine AC_i [.t (.sc (.int .i64 r))] Tryz.func31 rfl Tryz.ntmps31 ?_
 intro C hC
 refine zb (za ?_)
 refine zaF ?_
 refine s_as ?_
 refine zf (zd (zb (za ?_)))
 refine s_fa zfy ?_
 refine zp yA35 ?_
 refine s_mv ?_
 obtain ⟨v1, V1, F1⟩ := zc F0
 refine zz [] (zfo fuel _ _ _ V1) ?_
 refine s_as ?_
 refine zf (zd (zb (zb (za ?_))))
 refine s_mv ?_
 refine s_lt ?_
 refine zf (zd ?_)
 refine zn F1 ?_ ?_ <;> intro C2 F2
 refine zb (za ?_)
 refine s_as ?_
 refine zf (zd (zh (zg (zm ?_))))
 cases F2
 exact zk [] [] Tryz.results31
 refine zi (zd (zb (za ?_)))
 refine s_fa zfx ?_
 refine zp yA53 ?_
 refine s_mv ?_
 obtain ⟨v3, V3, F3⟩ := zc F2
 refine zz [] (m_laws_heldRuleS_ok fuel _ _ _ V3) ?_
 refine s_as ?_
 refine zf (zd (zb (zb (za ?_))))
 refine s_mv ?_
 refine s_lt ?_
 refine zf (zd ?_)
 refine zn F3 ?_ ?_ <;> intro C4 F4
 refine zb (za ?_)
 refine s_as ?_
 refine zf (zd (zh (zg (zm ?_))))
 cases F4
 exact zk [] [] Tryz.results31
 refine zi (zd (zb (za ?_)))
 refine s_mv ?_
 refine s_as ?_
 refine zf (zd (zh (zm ?_)))
 cases F4
 exact zk [] [] Tryz.results31
def m_slices_Clone_int_AC (fuel : Nat) : Prop := ∀ (x1 : (List Int)) (r : (List Int)), zb6 fuel x1 = some r → AC Tryz.prog 137 [.t (.sl (x1.map rI))] noOb (.t (.sl (r.map rI))) noOb
theorem m_slices_Clone_int_ok (fuel : Nat) : m_slices_Clone_int_AC fuel := by
 intro x1 r F0
 unfold zb6 at F0
 refine AC_i [.t (.sl (r.map rI))] Tryz.func137 rfl Tryz.ntmps137 ?_
 intro C hC
 refine awp_nil 0 (fun hz => ?_) ?_
 replace hz := List.map_eq_nil_iff.mp hz; subst hz; obtain ⟨_, F1⟩ := zaS F0
 refine zb (za ?_)
 refine s_as ?_
 refine zf (zd (zb (zb (za ?_))))
 refine s_mv ?_
 refine s_nil yU23 ?_
 refine zf (zd (zM rfl ?_))
 refine zgc 0 ?_
 refine zgc 3 ?_
 refine zb (za ?_)
 refine s_as ?_
 refine zf (zd (zh (zg (zm ?_))))
 cases F1
 exact zk [] [] Tryz.results137
 refine zb (za ?_)
 refine s_as ?_
 refine zf (zd (zb (zb (za ?_))))
 refine s_mv ?_
 refine s_nil yU23 ?_
 refine zf (zd (zci rfl ?_))
 refine zgc 0 ?_
 refine zgc 3 ?_
 refine zi (zd (zb (za ?_)))
 refine s_bs rI ([] : List Int) yP23 yR3 ?_
 refine s_mv ?_
 obtain ⟨hk1, F1⟩ := zaS F0
 refine s_apT rI (fun _ => rfl) hk1 yP23 ?_
 refine s_as ?_
 refine zf (zd (zh (zm ?_)))
 cases F1
 exact zk [] [7] Tryz.results137
def zes (fuel : Nat) : Prop := ∀ (x1 : Form) (r : Form), zai fuel x1 = some r → AC Tryz.prog 105 [.ag [.t (.sc (.int .i64 x1.kind)), .t (.sc (.str x1.name)), .t (.sc (.int .i64 x1.n)), .t (.sl (x1.scopes.map rI)), .t (.sl (x1.kids.map Form.row))]] noOb (.ag [.t (.sc (.int .i64 r.kind)), .t (.sc (.str r.name)), .t (.sc (.int .i64 r.n)), .t (.sl (r.scopes.map rI)), .t (.sl (r.kids.map Form.row))]) noOb
theorem m_impl_copyForm_st (fu : Nat) (ih_m_impl_copyForm : ∀ k, k ≤ fu → zes k) : zes (fu + 1) := by
 intro x1 r F0
 rw [zai] at F0
 refine AC_i [.ag [.t (.sc (.int .i64 r.kind)), .t (.sc (.str r.name)), .t (.sc (.int .i64 r.n)), .t (.sl (r.scopes.map rI)), .t (.sl (r.kids.map Form.row))]] Tryz.func105 rfl Tryz.ntmps105 ?_
 intro C hC
 refine zb (za ?_)
 refine zaF ?_
 refine zU yZ37 ?_
 refine zf (zd (zb ?_))
 refine zaf yMix (by kernel_rfl) ?_
 refine s_fa zc8 ?_
 refine zp yA3 ?_
 refine s_fa zcH ?_
 refine zp yA9 ?_
 refine s_fa zep ?_
 refine zp yA3 ?_
 refine s_fa zeu ?_
 refine zp yA23 ?_
 obtain ⟨v1, V1, F1⟩ := zc F0
 refine zz [] (m_slices_Clone_int_ok fu _ _ V1) ?_
 refine s_bld yZ37 yL37 ?_
 refine zU yZ37 ?_
 refine zb4 yS37 ?_
 refine zao (by kernel_rfl) ?_
 refine zd (zb (zb (za ?_)))
 refine s_fa zZ ?_
 refine zp yA35 ?_
 refine zE yU35 ?_
 refine s_mv ?_
 refine zf (zd (zl ?_))
 refine zfN 3 5020 37 [.t (.sc (.int .i64 x1.kind)), .t (.sc (.str x1.name)), .t (.sc (.int .i64 x1.n)), .t (.sl (v1.map rI)), .ar 5020] yI37.choose_spec ?_
 refine zbP [5, 19, 20, 21, 22, 23, 24, 25, 26, 27, 28, 29, 30] [3, 5020] [5, 27, 28] [5020] (fun a : Nat × Int × (List Form) => a.1) (fun a : Nat × Int × (List Form) => [(19, .t (.sc (.int .i64 a.2.1)))]) (fun a : Nat × Int × (List Form) => [(3, .box [.t (.sc (.int .i64 x1.kind)), .t (.sc (.str x1.name)), .t (.sc (.int .i64 x1.n)), .t (.sl (v1.map rI)), .ar 5020]), (5020, .arr (a.2.2.map Form.row) 37 true)]) (fun a : Nat × Int × (List Form) => a.1 ≤ fu ∧ zaR a.1 x1 v1 a.2.1 a.2.2 = some r ∧ 0 ≤ a.2.1) (fu, 0, ([] : List Form)) ⟨Nat.le_refl _, F1, by simp⟩ (by rfl) (by rfl) (fun _ => rfl) (zbj (by conv => lhs; whnf) (by rfl) zc5) (zaj (by conv => lhs; whnf) (by rfl) (zaj (by conv => lhs; whnf) (by rfl) zcz)) (zeG hC rfl) (by repeat (first | exact zby rfl | refine zb2 rfl ?_ | refine zaT rfl ?_)) (by repeat (first | exact zcw | exact zbD rfl | refine zb3 rfl ?_ | refine zaU rfl ?_)) ?_
 clear F1
 rintro ⟨fu, g2, g3⟩ ⟨hl4, F2, hn_g2⟩
 dsimp only at hl4 F2 hn_g2 ⊢
 obtain _ | fu := fu
 · rw [zaR] at F2; cases F2
 rw [zaR] at F2
 refine zb (za ?_)
 refine s_lt ?_
 refine zf (zd (zb ?_))
 refine zn F2 ?_ ?_ <;> intro C5 F3
 refine zG 17 (fun B6 => ?_)
 refine zi (zd (zb (zl (zb (za ?_)))))
 obtain ⟨v7, V7, F4⟩ := zc F3
 refine zL Form.row V7 (Form.row_eq _) yE35 ?_
 refine zag yA37 yS37 ?_
 refine zU yZ37 ?_
 refine zb4 yS37 ?_
 refine zf (zd ?_)
 refine zaf yMix (by kernel_rfl) ?_
 refine s_fa zZ ?_
 refine zp yA35 ?_
 refine zad yA37 yS37 ?_
 obtain ⟨v8, V8, F5⟩ := zc F4
 refine zz [] (ih_m_impl_copyForm fu (by omega) _ _ V8) ?_
 refine s_bs Form.row [v8] yP35 yR37 ?_
 obtain ⟨hk9, F6⟩ := zaS F5
 refine s_apT Form.row (fun y => Form.row_len y) hk9 yP35 ?_
 refine s_fa zZ ?_
 refine zcY yS35 ?_
 refine zao (by kernel_rfl) ?_
 refine z6 (zd (za ?_))
 refine zI (zak C5 B6 hn_g2) ?_
 refine s_mv ?_
 refine zf ?_
 exact s_rn (fu, (g2 + 1), (g3 ++ [v8])) ⟨by first | omega | (dsimp only; omega), F6, by first | omega | (dsimp only; omega)⟩ [(5020, 28)]
 refine zB (zw (zr (zx (zd (zb (za ?_))))))
 refine zad yA37 yS37 ?_
 refine zb4 yS37 ?_
 refine zf (zd (zh (zm ?_)))
 cases F3
 exact zch [] [5020] (by rw [Tryz.results105]; exact (zdt (by conv => lhs; whnf) (by conv => lhs; whnf) yA37 yS37 rfl zcj))
theorem m_impl_copyForm_all (fuel : Nat) : zes fuel := by
 induction fuel using Nat.strongRecOn with
 | _ N ih =>
   cases N with
   | zero => exact (by intro x1 r h; rw [zai] at h; cases h)
   | succ fu => exact m_impl_copyForm_st fu (fun k hk => (ih k (by omega)))
theorem zfK (fuel : Nat) : zes fuel := (m_impl_copyForm_all fuel)
def m_impl_copyMacro_AC (fuel : Nat) : Prop := ∀ (x1 : zq) (r : zq), zcF fuel x1 = some r → AC Tryz.prog 66 [.ag [.t (.sc (.int .i64 x1.id)), .t (.sl (x1.literals.map Form.row)), .t (.sl (x1.rules.map Rule.row))]] noOb (.ag [.t (.sc (.int .i64 r.id)), .t (.sl (r.literals.map Form.row)), .t (.sl (r.rules.map Rule.row))]) noOb
theorem m_impl_copyMacro_ok (fuel : Nat) : m_impl_copyMacro_AC fuel := by
 intro x1 r F0
 unfold zcF at F0
 refine AC_i [.ag [.t (.sc (.int .i64 r.id)), .t (.sl (r.literals.map Form.row)), .t (.sl (r.rules.map Rule.row))]] Tryz.func66 rfl Tryz.ntmps66 ?_
 intro C hC
 refine zb (za ?_)
 refine zaF ?_
 refine zU yZ55 ?_
 refine zf (zd (zb (za ?_)))
 refine s_fa zgJ ?_
 refine zp yA3 ?_
 refine s_bld yZ55 yL55 ?_
 refine zU yZ55 ?_
 refine zb4 yS55 ?_
 refine zf (zd ?_)
 refine zgd (α := Nat × (List Form)) [5, 11, 12, 13, 14, 15, 16, 17, 18, 19, 20, 21, 22, 23, 24, 25] [3, 5040] [] (fun a => []) (fun a => [(3, .box [.t (.sc (.int .i64 x1.id)), .ar 5040, .nl]), (5040, .arr (a.2.map Form.row) 37 true)]) (fun a => a.1 ≤ fuel ∧ zbw a.1 x1 a.2 = some r) ?_ ?_
 refine zb (za ?_)
 refine s_fa zfy ?_
 refine zp yA35 ?_
 refine zE yU35 ?_
 refine s_mv ?_
 refine zf (zd (zl ?_))
 refine zfN 3 5040 37 [.t (.sc (.int .i64 x1.id)), .ar 5040, .nl] yI37.choose_spec ?_
 refine zbP [5, 14, 15, 16, 17, 18, 19, 20, 21, 22, 23, 24, 25] [3, 5040] [5, 22, 23] [5040] (fun a : Nat × Int × (List Form) => a.1) (fun a : Nat × Int × (List Form) => [(14, .t (.sc (.int .i64 a.2.1)))]) (fun a : Nat × Int × (List Form) => [(3, .box [.t (.sc (.int .i64 x1.id)), .ar 5040, .nl]), (5040, .arr (a.2.2.map Form.row) 37 true)]) (fun a : Nat × Int × (List Form) => a.1 ≤ fuel ∧ zat a.1 x1 a.2.1 a.2.2 = some r ∧ 0 ≤ a.2.1) (fuel, 0, ([] : List Form)) ⟨Nat.le_refl _, F0, by simp⟩ (by rfl) (by rfl) (fun _ => rfl) (zbj (by conv => lhs; whnf) (by rfl) zc5) (zaj (by conv => lhs; whnf) (by rfl) (zaj (by conv => lhs; whnf) (by rfl) zcz)) (zeG hC rfl) (by repeat (first | exact zby rfl | refine zb2 rfl ?_ | refine zaT rfl ?_)) (by repeat (first | exact zcw | exact zbD rfl | refine zb3 rfl ?_ | refine zaU rfl ?_)) ?_
 clear F0
 rintro ⟨fu, g1, g2⟩ ⟨hl3, F1, hn_g1⟩
 dsimp only at hl3 F1 hn_g1 ⊢
 obtain _ | fu := fu
 · rw [zat] at F1; cases F1
 rw [zat] at F1
 refine zb (za ?_)
 refine s_lt ?_
 refine zf (zd (zb ?_))
 refine zn F1 ?_ ?_ <;> intro C4 F2
 refine zG 12 (fun B5 => ?_)
 refine zi (zd (zb (zl (zb (za ?_)))))
 obtain ⟨v6, V6, F3⟩ := zc F2
 refine zL Form.row V6 (Form.row_eq _) yE35 ?_
 refine zag yA37 yS37 ?_
 refine zU yZ37 ?_
 refine zb4 yS37 ?_
 refine zf (zd ?_)
 refine zaf yMix (by kernel_rfl) ?_
 refine s_fa zfy ?_
 refine zp yA35 ?_
 refine zad yA37 yS37 ?_
 obtain ⟨v7, V7, F4⟩ := zc F3
 refine zz [] (zfK fu _ _ V7) ?_
 refine s_bs Form.row [v7] yP35 yR37 ?_
 obtain ⟨hk8, F5⟩ := zaS F4
 refine s_apT Form.row (fun y => Form.row_len y) hk8 yP35 ?_
 refine s_fa zfy ?_
 refine zcY yS35 ?_
 refine zao (by kernel_rfl) ?_
 refine z6 (zd (za ?_))
 refine zI (zak C4 B5 hn_g1) ?_
 refine s_mv ?_
 refine zf ?_
 exact s_rn (fu, (g1 + 1), (g2 ++ [v7])) ⟨by first | omega | (dsimp only; omega), F5, by first | omega | (dsimp only; omega)⟩ [(5040, 23)]
 refine zB (zw (zr (zx ?_)))
 exact s_jn (fu, g2) ⟨by first | omega | (dsimp only; omega), F2⟩
 clear F0
 rintro ⟨fu, g9⟩ ⟨hl10, F1⟩
 dsimp only at hl10 F1 ⊢
 obtain _ | fu := fu
 · rw [zbw] at F1; cases F1
 rw [zbw] at F1
 refine zb (zb (za ?_))
 refine s_fa zfx ?_
 refine zp yA53 ?_
 refine zE yU53 ?_
 refine s_mv ?_
 refine zf (zd (zl ?_))
 refine zfN 3 5060 96 [.t (.sc (.int .i64 x1.id)), .ar 5040, .ar 5060] yI96.choose_spec ?_
 refine zbP [7, 29, 30, 31, 32, 33, 34, 35, 36, 37, 38, 39, 40, 41, 42, 43, 44, 45] [3, 5060] [7, 42, 43] [5060] (fun a : Nat × Int × (List Rule) => a.1) (fun a : Nat × Int × (List Rule) => [(29, .t (.sc (.int .i64 a.2.1)))]) (fun a : Nat × Int × (List Rule) => [(3, .box [.t (.sc (.int .i64 x1.id)), .ar 5040, .ar 5060]), (5060, .arr (a.2.2.map Rule.row) 96 true)]) (fun a : Nat × Int × (List Rule) => a.1 ≤ fu ∧ zan a.1 x1 g9 a.2.1 a.2.2 = some r ∧ 0 ≤ a.2.1) (fu, 0, ([] : List Rule)) ⟨Nat.le_refl _, F1, by simp⟩ (by rfl) (by rfl) (fun _ => rfl) (zbj (by conv => lhs; whnf) (by rfl) zc5) (zaj (by conv => lhs; whnf) (by rfl) (zaj (by conv => lhs; whnf) (by rfl) zcz)) (zeG hC rfl) (by repeat (first | exact zby rfl | refine zb2 rfl ?_ | refine zaT rfl ?_)) (by repeat (first | exact zcw | exact zbD rfl | refine zb3 rfl ?_ | refine zaU rfl ?_)) ?_
 clear F1
 rintro ⟨fu, g11, g12⟩ ⟨hl13, F2, hn_g11⟩
 dsimp only at hl13 F2 hn_g11 ⊢
 obtain _ | fu := fu
 · rw [zan] at F2; cases F2
 rw [zan] at F2
 refine zb (za ?_)
 refine s_lt ?_
 refine zf (zd (zb ?_))
 refine zn F2 ?_ ?_ <;> intro C14 F3
 refine zG 27 (fun B15 => ?_)
 refine zi (zd (zb (zl (zb (za ?_)))))
 obtain ⟨v16, V16, F4⟩ := zc F3
 refine zL Rule.row V16 (Rule.row_eq _) yE53 ?_
 refine zag yA96 yS96 ?_
 refine zU yZ96 ?_
 refine zb4 yS96 ?_
 refine zf (zd ?_)
 refine zaf yMix (by kernel_rfl) ?_
 refine s_fa zfx ?_
 refine zp yA53 ?_
 refine s_fa zd3 ?_
 refine zag yA37 yS37 ?_
 obtain ⟨v17, V17, F5⟩ := zc F4
 refine zz [] (zfK fu _ _ V17) ?_
 refine s_fa zfr ?_
 refine zag yA37 yS37 ?_
 obtain ⟨v18, V18, F6⟩ := zc F5
 refine zz [] (zfK fu _ _ V18) ?_
 refine s_bld yZ96 yL96 ?_
 refine s_bs Rule.row [(Rule.mk v17 v18)] yP53 yR96 ?_
 obtain ⟨hk19, F7⟩ := zaS F6
 refine s_apT Rule.row (fun y => Rule.row_len y) hk19 yP53 ?_
 refine s_fa zfx ?_
 refine zcY yS53 ?_
 refine zao (by kernel_rfl) ?_
 refine z6 (zd (za ?_))
 refine zI (zak C14 B15 hn_g11) ?_
 refine s_mv ?_
 refine zf ?_
 exact s_rn (fu, (g11 + 1), (g12 ++ [(Rule.mk v17 v18)])) ⟨by first | omega | (dsimp only; omega), F7, by first | omega | (dsimp only; omega)⟩ [(5060, 43)]
 refine zB (zw (zr (zx (zd (zb (za ?_))))))
 refine zad yA55 yS55 ?_
 refine zb4 yS55 ?_
 refine zf (zd (zh (zm ?_)))
 cases F3
 exact zch [] [5040, 5060] (by rw [Tryz.results66]; exact (zdt (by conv => lhs; whnf) (by conv => lhs; whnf) yA55 yS55 rfl zcj))
def m_impl_FindMacro_AC (fuel : Nat) : Prop := ∀ (x1 : zv) (x2 : Int) (r : (zq × Bool)), zcg fuel x1 x2 = some r → AC Tryz.prog 26 [.ag [.t (.sl (x1.binds.map Bind.row)), .t (.sl (x1.macros.map zq.row)), .t (.sc (.int .i64 x1.scope)), .t (.sc (.int .i64 x1.id)), .t (.sc (.int .i64 x1.steps))], .t (.sc (.int .i64 x2))] noOb (.tp [.ag [.t (.sc (.int .i64 r.1.id)), .t (.sl (r.1.literals.map Form.row)), .t (.sl (r.1.rules.map Rule.row))], .t (.sc (.bool r.2))]) noOb
theorem m_impl_FindMacro_ok (fuel : Nat) : m_impl_FindMacro_AC fuel := by
 intro x1 x2 r F0
 unfold zcg at F0
 refine AC_i [.ag [.t (.sc (.int .i64 r.1.id)), .t (.sl (r.1.literals.map Form.row)), .t (.sl (r.1.rules.map Rule.row))], .t (.sc (.bool r.2))] Tryz.func26 rfl Tryz.ntmps26 ?_
 intro C hC
 refine zb (za ?_)
 refine zaF ?_
 refine zU yZ55 ?_
 refine s_as ?_
 refine zf (zd (zb (za ?_)))
 refine s_fa zd4 ?_
 refine zp yA58 ?_
 refine s_mv ?_
 obtain ⟨v1, V1, F1⟩ := zc F0
 refine zz [] (zfU fuel _ _ _ V1) ?_
 refine s_as ?_
 refine zf (zd (zb ?_))
 refine zgd (α := Nat × Bool) [11, 12, 13, 14, 15, 16, 17] [] [] (fun a => [(17, .t (.sc (.bool a.2)))]) (fun a => []) (fun a => a.1 ≤ fuel ∧ zau a.1 x1 v1 a.2 = some r) ?_ ?_
 refine za ?_
 refine zad yA60 yS60 ?_
 obtain ⟨v2, V2, F2⟩ := zc F1
 refine zz [] (zfu fuel _ _ V2) ?_
 refine zbC ?_
 refine s_mv ?_
 refine zy _ 14 F2 ?_ ?_ <;> intro C3 F3
 refine r_no rfl (r_no rfl ?_)
 refine zC ?_
 refine zf ?_
 exact s_jn (fuel, true) ⟨by first | omega | (dsimp only; omega), F3⟩
 refine s_mv ?_
 refine s_lt ?_
 refine zF ?_
 refine zf ?_
 exact s_jn (fuel, (decide (v1 < 0))) ⟨by first | omega | (dsimp only; omega), F3⟩
 clear F1
 rintro ⟨fu, g4⟩ ⟨hl5, F2⟩
 dsimp only at hl5 F2 ⊢
 obtain _ | fu := fu
 · rw [zau] at F2; cases F2
 rw [zau] at F2
 refine zn F2 ?_ ?_ <;> intro C6 F3
 refine zb (za ?_)
 refine s_bld yZ55 yL55 ?_
 refine zb4 yS55 ?_
 refine s_as ?_
 refine zf (zd (zh (zg (zm ?_))))
 cases F3
 exact zch [] [] (by rw [Tryz.results26]; exact (zdt (by conv => lhs; whnf) (by conv => lhs; whnf) yA55 yS55 rfl (zds (by conv => lhs; whnf) zcj)))
 refine zi (zd (zb (za ?_)))
 refine s_fa zd4 ?_
 refine zp yA58 ?_
 refine s_mv ?_
 obtain ⟨v7, V7, F4⟩ := zc F3
 refine zL zq.row V7 (zq.row_eq _) yE58 ?_
 refine zag yA55 yS55 ?_
 obtain ⟨v8, V8, F5⟩ := zc F4
 refine zz [] (m_impl_copyMacro_ok fu _ _ V8) ?_
 refine zb4 yS55 ?_
 refine s_as ?_
 refine zf (zd (zh (zm ?_)))
 cases F5
 exact zch [] [] (by rw [Tryz.results26]; exact (zdt (by conv => lhs; whnf) (by conv => lhs; whnf) yA55 yS55 rfl (zds (by conv => lhs; whnf) zcj)))
def zgG (fuel : Nat) : Prop := ∀ (x1 : zv) (x2 : Int) (r : Bool), zcO fuel x1 x2 = some r → AC Tryz.prog 4 [.ag [.t (.sl (x1.binds.map Bind.row)), .t (.sl (x1.macros.map zq.row)), .t (.sc (.int .i64 x1.scope)), .t (.sc (.int .i64 x1.id)), .t (.sc (.int .i64 x1.steps))], .t (.sc (.int .i64 x2))] noOb (.t (.sc (.bool r))) noOb
theorem zgF (fuel : Nat) : zgG fuel := by
 intro x1 x2 r F0
 unfold zcO at F0
 refine AC_i [.t (.sc (.bool r))] Tryz.func4 rfl Tryz.ntmps4 ?_
 intro C hC
 refine zb (za ?_)
 refine zaF ?_
 refine s_as ?_
 refine zf (zd (zb (za ?_)))
 refine s_as ?_
 refine zf (zd (zb (za ?_)))
 refine zad yA51 yS51 ?_
 refine s_mv ?_
 obtain ⟨v1, V1, F1⟩ := zc F0
 refine zz [] (m_laws_szExpansion_ok fuel _ _ _ V1) ?_
 refine s_as ?_
 refine zf (zd (zb (zb (za ?_))))
 refine s_mv ?_
 refine s_lt ?_
 refine zf (zd ?_)
 refine zn F1 ?_ ?_ <;> intro C2 F2
 refine zb (za ?_)
 refine s_as ?_
 refine zf (zd (zh (zg (zm ?_))))
 cases F2
 exact zk [] [] Tryz.results4
 refine zi (zd (zb (za ?_)))
 refine zad yA51 yS51 ?_
 obtain ⟨v3, V3, F3⟩ := zc F2
 refine zz [] (zeB fuel _ _ V3) ?_
 refine s_mv ?_
 obtain ⟨v4, V4, F4⟩ := zc F3
 refine zz [] (m_spec_FindMacro_ok fuel _ _ _ V4) ?_
 refine s_mv ?_
 refine s_ext ?_
 refine s_ext ?_
 refine zU yZ55 ?_
 refine zb4 yS55 ?_
 refine s_as ?_
 refine zf (zd (zb (za ?_)))
 refine zad yA51 yS51 ?_
 obtain ⟨v5, V5, F5⟩ := zc F4
 refine zQ [(9200, 2029), (9201, 12029)] [] _ _ (zhz fuel _ _ V5) ?_
 refine zU yZ60 ?_
 refine zb4 yS60 ?_
 refine zf (zd (zb (za ?_)))
 refine zad yA60 yS60 ?_
 refine s_mv ?_
 obtain ⟨v6, V6, F6⟩ := zc F5
 refine zQ [(9700, 2029), (9701, 12029), (9201, 2033), (9202, 12033)] [] [(9700, .dar (v5.binds.map (Bind.rowD 3)) 83), (9701, .dar (v5.macros.map (zq.rowD 3 37 96)) 55)] [(9700, .dar (v5.binds.map (Bind.rowD 3)) 83), (9701, .dar (v5.macros.map (zq.rowD 3 37 96)) 55), (9201, .dar (v6.1.literals.map (Form.rowD 3 37)) 37), (9202, .dar (v6.1.rules.map (Rule.rowD 3 37)) 96)] (ac_lend (args := [.ag [.ar 9700, .ar 9701, .t (.sc (.int .i64 v5.scope)), .t (.sc (.int .i64 v5.id)), .t (.sc (.int .i64 v5.steps))], .t (.sc (.int .i64 x2))]) [(9700, .dar (v5.binds.map (Bind.rowD 3)) 83), (9701, .dar (v5.macros.map (zq.rowD 3 37 96)) 55)] [(9201, .dar (v6.1.literals.map (Form.rowD 3 37)) 37), (9202, .dar (v6.1.rules.map (Rule.rowD 3 37)) 96)] (m_impl_FindMacro_D_ok fuel _ _ _ V6) rfl (by simp only [V.lendL, V.lend, zbV, zfY, Nat.reduceEqDiff, reduceIte, if_true, if_false, Form.lendM, Core.lendM, Hit.lendM, Rule.lendM, Bind.lendM, zq.lendM]; try rfl) (by rfl) (by rfl) (by rfl) (by rfl) (by simp only [List.all_cons, List.all_nil, Ob.flat, zg4, flat_rS, Form.flatM, Core.flatM, Hit.flatM, Rule.flatM, Bind.flatM, zq.flatM, Bool.and_self, Bool.true_and]) (by rfl)) ?_
 refine s_mv ?_
 refine s_ext ?_
 refine s_ext ?_
 refine zU yZ55 ?_
 refine zb4 yS55 ?_
 refine s_as ?_
 refine zf (zd (zb ?_))
 refine zgd (α := Nat × Bool) [36, 37, 38, 39, 40, 41, 42, 43, 44] [] [] (fun a => [(44, .t (.sc (.bool a.2)))]) (fun a => []) (fun a => a.1 ≤ fuel ∧ zaW a.1 x1 x2 v4 v5 v6 a.2 = some r) ?_ ?_
 refine za ?_
 refine zad yA55 yS55 ?_
 refine zad yA55 yS55 ?_
 obtain ⟨v7, V7, F7⟩ := zc F6
 refine zQ [(9700, 2033), (9701, 12033)] [] [(9700, .dar (v6.1.literals.map (Form.rowD 3 37)) 37), (9701, .dar (v6.1.rules.map (Rule.rowD 3 37)) 96)] [(9700, .dar (v6.1.literals.map (Form.rowD 3 37)) 37), (9701, .dar (v6.1.rules.map (Rule.rowD 3 37)) 96)] (ac_lend (args := [.ag [.t (.sc (.int .i64 v6.1.id)), .ar 9700, .ar 9701], .ag [.t (.sc (.int .i64 v4.1.id)), .t (.sl (v4.1.literals.map Form.row)), .t (.sl (v4.1.rules.map Rule.row))]]) [(9700, .dar (v6.1.literals.map (Form.rowD 3 37)) 37), (9701, .dar (v6.1.rules.map (Rule.rowD 3 37)) 96)] [] (zeQ fuel _ _ _ V7) rfl (by simp only [V.lendL, V.lend, zbV, zfY, Nat.reduceEqDiff, reduceIte, if_true, if_false, Form.lendM, Core.lendM, Hit.lendM, Rule.lendM, Bind.lendM, zq.lendM]; try rfl) (by rfl) (by rfl) (by rfl) (by rfl) (by simp only [List.all_cons, List.all_nil, Ob.flat, zg4, flat_rS, Form.flatM, Core.flatM, Hit.flatM, Rule.flatM, Bind.flatM, zq.flatM, Bool.and_self, Bool.true_and]) (by rfl)) ?_
 refine zbC ?_
 refine s_mv ?_
 refine zy _ 40 F7 ?_ ?_ <;> intro C8 F8
 iterate 3 refine r_no rfl ?_
 refine zC ?_
 refine zf ?_
 exact s_jn (fuel, true) ⟨by first | omega | (dsimp only; omega), F8⟩
 refine s_mv ?_
 refine s_mv ?_
 refine s_neB yU4 ?_
 refine zF ?_
 refine zf ?_
 exact s_jn (fuel, (decide (v6.2 ≠ v4.2))) ⟨by first | omega | (dsimp only; omega), F8⟩
 clear F6
 rintro ⟨fu, g9⟩ ⟨hl10, F7⟩
 dsimp only at hl10 F7 ⊢
 obtain _ | fu := fu
 · rw [zaW] at F7; cases F7
 rw [zaW] at F7
 refine zn F7 ?_ ?_ <;> intro C11 F8
 refine zb (za ?_)
 refine s_as ?_
 refine zf (zd (zh (zg (zm ?_))))
 cases F8
 exact zk [] [] Tryz.results4
 refine zi (zd (zb (zb ?_)))
 refine zaf yMix (by kernel_rfl) ?_
 refine zad yA60 yS60 ?_
 refine zad yA51 yS51 ?_
 obtain ⟨v12, V12, F9⟩ := zc F8
 refine zz [] (zeB fu _ _ V12) ?_
 obtain ⟨v13, V13, F10⟩ := zc F9
 refine zQ [(9700, 2029), (9701, 12029)] [] [(9700, .dar (v5.binds.map (Bind.rowD 3)) 83), (9701, .dar (v5.macros.map (zq.rowD 3 37 96)) 55)] [(9700, .dar (v5.binds.map (Bind.rowD 3)) 83), (9701, .dar (v5.macros.map (zq.rowD 3 37 96)) 55)] (ac_lend (args := [.ag [.ar 9700, .ar 9701, .t (.sc (.int .i64 v5.scope)), .t (.sc (.int .i64 v5.id)), .t (.sc (.int .i64 v5.steps))], .ag [.t (.sl (v12.binds.map Bind.row)), .t (.sl (v12.macros.map zq.row)), .t (.sc (.int .i64 v12.scope)), .t (.sc (.int .i64 v12.id)), .t (.sc (.int .i64 v12.steps))]]) [(9700, .dar (v5.binds.map (Bind.rowD 3)) 83), (9701, .dar (v5.macros.map (zq.rowD 3 37 96)) 55)] [] (m_laws_eqExpansion_ok fu _ _ _ V13) rfl (by simp only [V.lendL, V.lend, zbV, zfY, Nat.reduceEqDiff, reduceIte, if_true, if_false, Form.lendM, Core.lendM, Hit.lendM, Rule.lendM, Bind.lendM, zq.lendM]; try rfl) (by rfl) (by rfl) (by rfl) (by rfl) (by simp only [List.all_cons, List.all_nil, Ob.flat, zg4, flat_rS, Form.flatM, Core.flatM, Hit.flatM, Rule.flatM, Bind.flatM, zq.flatM, Bool.and_self, Bool.true_and]) (by rfl)) ?_
 refine zbC ?_
 refine zao (by kernel_rfl) ?_
 refine zd ?_
 refine zn F10 ?_ ?_ <;> intro C14 F11
 refine zb (za ?_)
 refine s_as ?_
 refine zf (zd (zh (zg (zm ?_))))
 cases F11
 exact zk [] [] Tryz.results4
 refine zi (zd (zb (za ?_)))
 refine s_as ?_
 refine zf (zd (zb (za ?_)))
 refine zad yA60 yS60 ?_
 refine s_mv ?_
 obtain ⟨v15, V15, F12⟩ := zc F11
 refine zQ [(9300, 2029), (9301, 12029)] [] _ _ (zg0 fu _ _ _ V15) ?_
 refine s_as ?_
 refine zf (zd (zb ?_))
 refine zgd (α := Nat × Bool) [53, 54, 55, 56, 57, 58, 59, 60, 61, 62, 63, 64, 65] [] [] (fun a => [(65, .t (.sc (.bool a.2)))]) (fun a => []) (fun a => a.1 ≤ fu ∧ zaz a.1 x1 x2 v4 v6 a.2 = some r) ?_ ?_
 refine za ?_
 refine s_mv ?_
 refine s_lt ?_
 refine s_mv ?_
 refine zy _ 55 F12 ?_ ?_ <;> intro C16 F13
 iterate 4 refine r_no rfl ?_
 refine zC ?_
 refine s_mv ?_
 iterate 3 refine r_no rfl ?_
 refine zC ?_
 refine zf ?_
 exact s_jn (fu, true) ⟨by first | omega | (dsimp only; omega), F13⟩
 refine zad yA55 yS55 ?_
 refine zad yA55 yS55 ?_
 obtain ⟨v17, V17, F14⟩ := zc F13
 refine zQ [(9700, 2033), (9701, 12033)] [] [(9700, .dar (v6.1.literals.map (Form.rowD 3 37)) 37), (9701, .dar (v6.1.rules.map (Rule.rowD 3 37)) 96)] [(9700, .dar (v6.1.literals.map (Form.rowD 3 37)) 37), (9701, .dar (v6.1.rules.map (Rule.rowD 3 37)) 96)] (ac_lend (args := [.ag [.t (.sc (.int .i64 v6.1.id)), .ar 9700, .ar 9701], .ag [.t (.sc (.int .i64 v4.1.id)), .t (.sl (v4.1.literals.map Form.row)), .t (.sl (v4.1.rules.map Rule.row))]]) [(9700, .dar (v6.1.literals.map (Form.rowD 3 37)) 37), (9701, .dar (v6.1.rules.map (Rule.rowD 3 37)) 96)] [] (zeQ fu _ _ _ V17) rfl (by simp only [V.lendL, V.lend, zbV, zfY, Nat.reduceEqDiff, reduceIte, if_true, if_false, Form.lendM, Core.lendM, Hit.lendM, Rule.lendM, Bind.lendM, zq.lendM]; try rfl) (by rfl) (by rfl) (by rfl) (by rfl) (by simp only [List.all_cons, List.all_nil, Ob.flat, zg4, flat_rS, Form.flatM, Core.flatM, Hit.flatM, Rule.flatM, Bind.flatM, zq.flatM, Bool.and_self, Bool.true_and]) (by rfl)) ?_
 refine zbC ?_
 refine zF ?_
 refine s_mv ?_
 refine zy _ 61 F14 ?_ ?_ <;> intro C18 F15
 iterate 3 refine r_no rfl ?_
 refine zC ?_
 refine zf ?_
 exact s_jn (fu, true) ⟨by first | omega | (dsimp only; omega), F15⟩
 refine s_mv ?_
 refine s_mv ?_
 refine s_neB yU4 ?_
 refine zF ?_
 refine zf ?_
 exact s_jn (fu, (decide (v6.2 ≠ v4.2))) ⟨by first | omega | (dsimp only; omega), F15⟩
 clear F12
 rintro ⟨fu, g19⟩ ⟨hl20, F13⟩
 dsimp only at hl20 F13 ⊢
 obtain _ | fu := fu
 · rw [zaz] at F13; cases F13
 rw [zaz] at F13
 refine zn F13 ?_ ?_ <;> intro C21 F14
 refine zb (za ?_)
 refine s_as ?_
 refine zf (zd (zh (zg (zm ?_))))
 cases F14
 exact zk [] [] Tryz.results4
 refine zi (zd (zb (za ?_)))
 refine s_as ?_
 refine zf (zd (zb (za ?_)))
 refine zad yA55 yS55 ?_
 refine s_mv ?_
 obtain ⟨v22, V22, F15⟩ := zc F14
 refine zQ [(9301, 2033), (9302, 12033)] [] _ _ (m_laws_markMacro_D_ok fu _ _ _ V22) ?_
 refine s_as ?_
 refine zf (zd (zb (za ?_)))
 refine s_as ?_
 refine zf (zd (zb (za ?_)))
 refine zad yA55 yS55 ?_
 refine s_mv ?_
 obtain ⟨v23, V23, F16⟩ := zc F15
 refine zQ [(9700, 2033), (9701, 12033)] [] [(9700, .dar (v22.2.1.map (Form.rowD 3 37)) 37), (9701, .dar (v22.2.2.map (Rule.rowD 3 37)) 96)] [(9700, .dar (v22.2.1.map (Form.rowD 3 37)) 37), (9701, .dar (v22.2.2.map (Rule.rowD 3 37)) 96)] (ac_lend (args := [.ag [.t (.sc (.int .i64 v6.1.id)), .ar 9700, .ar 9701], .t (.sc (.int .i64 1))]) [(9700, .dar (v22.2.1.map (Form.rowD 3 37)) 37), (9701, .dar (v22.2.2.map (Rule.rowD 3 37)) 96)] [] (zgA fu _ _ _ V23) rfl (by simp only [V.lendL, V.lend, zbV, zfY, Nat.reduceEqDiff, reduceIte, if_true, if_false, Form.lendM, Core.lendM, Hit.lendM, Rule.lendM, Bind.lendM, zq.lendM]; try rfl) (by rfl) (by rfl) (by rfl) (by rfl) (by simp only [List.all_cons, List.all_nil, Ob.flat, zg4, flat_rS, Form.flatM, Core.flatM, Hit.flatM, Rule.flatM, Bind.flatM, zq.flatM, Bool.and_self, Bool.true_and]) (by rfl)) ?_
 refine s_as ?_
 refine zf (zd (zb (zb (za ?_))))
 refine s_mv ?_
 refine s_lt ?_
 refine zf (zd ?_)
 refine zn F16 ?_ ?_ <;> intro C24 F17
 refine zb (za ?_)
 refine s_as ?_
 refine zf (zd (zh (zg (zm ?_))))
 cases F17
 exact zk [] [] Tryz.results4
 refine zi (zd (zb (zb (za ?_))))
 refine s_mv ?_
 refine s_mv ?_
 refine s_ne ?_
 refine zf (zd ?_)
 refine zn F17 ?_ ?_ <;> intro C25 F18
 refine zb (za ?_)
 refine s_as ?_
 refine zf (zd (zh (zg (zm ?_))))
 cases F18
 exact zk [] [] Tryz.results4
 refine zi (zd (zb (za ?_)))
 refine zad yA51 yS51 ?_
 obtain ⟨v26, V26, F19⟩ := zc F18
 refine zz [] (zeB fu _ _ V26) ?_
 refine s_mv ?_
 obtain ⟨v27, V27, F20⟩ := zc F19
 refine zz [] (m_impl_FindMacro_ok fu _ _ _ V27) ?_
 refine s_mv ?_
 refine s_ext ?_
 refine s_ext ?_
 refine zU yZ55 ?_
 refine zb4 yS55 ?_
 refine s_as ?_
 refine zf (zd (zb ?_))
 refine zgd (α := Nat × Bool) [84, 85, 86, 87, 88, 89, 90, 91, 92] [] [] (fun a => [(92, .t (.sc (.bool a.2)))]) (fun a => []) (fun a => a.1 ≤ fu ∧ zaV a.1 v6 v22 a.2 = some r) ?_ ?_
 refine za ?_
 refine zad yA55 yS55 ?_
 refine zad yA55 yS55 ?_
 obtain ⟨v28, V28, F21⟩ := zc F20
 refine zz [] (zeQ fu _ _ _ V28) ?_
 refine zbC ?_
 refine s_mv ?_
 refine zy _ 88 F21 ?_ ?_ <;> intro C29 F22
 iterate 3 refine r_no rfl ?_
 refine zC ?_
 refine zf ?_
 exact s_jn (fu, true) ⟨by first | omega | (dsimp only; omega), F22⟩
 refine s_mv ?_
 refine s_mv ?_
 refine s_neB yU4 ?_
 refine zF ?_
 refine zf ?_
 exact s_jn (fu, (decide (v27.2 ≠ v4.2))) ⟨by first | omega | (dsimp only; omega), F22⟩
 clear F20
 rintro ⟨fu, g30⟩ ⟨hl31, F21⟩
 dsimp only at hl31 F21 ⊢
 obtain _ | fu := fu
 · rw [zaV] at F21; cases F21
 rw [zaV] at F21
 refine zn F21 ?_ ?_ <;> intro C32 F22
 refine zb (za ?_)
 refine s_as ?_
 refine zf (zd (zh (zg (zm ?_))))
 cases F22
 exact zk [] [] Tryz.results4
 refine zi (zd (zb (za ?_)))
 refine s_as ?_
 refine zf (zd (zb (za ?_)))
 refine zad yA55 yS55 ?_
 refine s_mv ?_
 obtain ⟨v33, V33, F23⟩ := zc F22
 refine zQ [(9700, 2033), (9701, 12033)] [] [(9700, .dar (v22.2.1.map (Form.rowD 3 37)) 37), (9701, .dar (v22.2.2.map (Rule.rowD 3 37)) 96)] [(9700, .dar (v22.2.1.map (Form.rowD 3 37)) 37), (9701, .dar (v22.2.2.map (Rule.rowD 3 37)) 96)] (ac_lend (args := [.ag [.t (.sc (.int .i64 v6.1.id)), .ar 9700, .ar 9701], .t (.sc (.int .i64 1))]) [(9700, .dar (v22.2.1.map (Form.rowD 3 37)) 37), (9701, .dar (v22.2.2.map (Rule.rowD 3 37)) 96)] [] (zgA fu _ _ _ V33) rfl (by simp only [V.lendL, V.lend, zbV, zfY, Nat.reduceEqDiff, reduceIte, if_true, if_false, Form.lendM, Core.lendM, Hit.lendM, Rule.lendM, Bind.lendM, zq.lendM]; try rfl) (by rfl) (by rfl) (by rfl) (by rfl) (by simp only [List.all_cons, List.all_nil, Ob.flat, zg4, flat_rS, Form.flatM, Core.flatM, Hit.flatM, Rule.flatM, Bind.flatM, zq.flatM, Bool.and_self, Bool.true_and]) (by rfl)) ?_
 refine s_as ?_
 refine zf (zd (zb (zb (za ?_))))
 refine s_mv ?_
 refine s_lt ?_
 refine zf (zd ?_)
 refine zn F23 ?_ ?_ <;> intro C34 F24
 refine zb (za ?_)
 refine s_as ?_
 refine zf (zd (zh (zg (zm ?_))))
 cases F24
 exact zk [] [] Tryz.results4
 refine zi (zd (zb (zb (za ?_))))
 refine s_mv ?_
 refine s_mv ?_
 refine s_ne ?_
 refine zf (zd ?_)
 refine zn F24 ?_ ?_ <;> intro C35 F25
 refine zb (za ?_)
 refine s_as ?_
 refine zf (zd (zh (zg (zm ?_))))
 cases F25
 exact zk [] [] Tryz.results4
 refine zi (zd (zb (za ?_)))
 refine s_as ?_
 refine zf (zd (zh (zm ?_)))
 cases F25
 exact zk [] [] Tryz.results4
end Go.Abs
