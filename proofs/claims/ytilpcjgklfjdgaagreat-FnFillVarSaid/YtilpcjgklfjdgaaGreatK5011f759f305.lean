/- A part of the proof: what the functions that the law calls answer, as pure values. -/
import Derived.Test.YtilpcjgklfjdgaaGreatK497c36ee90b6
import Derived.Test.YtilpcjgklfjdgaaGreatKc2e0a31646d6
import Derived.Test.YtilpcjgklfjdgaaGreatKee9727030f10
import Derived.Test.YtilpcjgklfjdgaaGreatK9901edc955de
import Derived.Test.YtilpcjgklfjdgaaGreatK007ed5c90478
import Derived.Test.YtilpcjgklfjdgaaGreatK20a40aab30d8
import Derived.Test.YtilpcjgklfjdgaaGreatK7be495c82a20
import Derived.Test.YtilpcjgklfjdgaaGreatK724feeb466d9
import Derived.Test.YtilpcjgklfjdgaaGreatK1e8eb432d4fb
set_option linter.unusedSimpArgs false
set_option linter.unusedVariables false
set_option maxRecDepth 100000
set_option maxHeartbeats 4000000
namespace Go.Abs
open Go.Proofs
theorem zg9 (fu : Nat) (ih_m_spec_l15OwnForm : ∀ k, k ≤ fu → zcW k) (ih_m_spec_l15OwnListForm : ∀ k, k ≤ fu → zcN k) : zcN (fu + 1) := by
 intro x1 r F0
 rw [zcJ] at F0
 refine AC_i [.t (.sl (r.map Form.row))] Tryz.func92 rfl Tryz.ntmps92 ?_
 intro C hC
 refine zb (za ?_)
 refine s_as ?_
 refine zf (zd (zb (za ?_)))
 refine s_bs Form.row ([] : List Form) yP24 yR32 ?_
 refine s_as ?_
 refine zf (zd (zb (zb (za ?_))))
 refine s_mv ?_
 refine zE yU24 ?_
 refine s_mv ?_
 refine zf (zd (zk ?_))
 refine zco 3 6 5020 (by conv => lhs; whnf) (by conv => lhs; whnf) rfl ?_
 refine zap [3, 5, 9, 10, 11, 12, 13, 14, 15, 16, 17, 18] [5020] [5, 16, 17] [5020] (fun a : Nat × (List Form) × Int => a.1) (fun a : Nat × (List Form) × Int => [(3, .ar 5020), (9, .t (.sc (.int .i64 a.2.2)))]) (fun a : Nat × (List Form) × Int => [(5020, .arr (a.2.1.map Form.row) 32 true)]) (fun a : Nat × (List Form) × Int => a.1 ≤ fu ∧ zaQ a.1 x1 a.2.1 a.2.2 = some r ∧ 0 ≤ a.2.2) (fu, ([] : List Form), 0) ⟨Nat.le_refl _, F0, by simp⟩ (by rfl) (by rfl) (fun _ => rfl) (zG (by conv => lhs; whnf) (by rfl) (zG (by conv => lhs; whnf) (by rfl) za2)) (zT (by conv => lhs; whnf) (by rfl) zaS) (zbV hC rfl) (by repeat (first | exact zad rfl | refine zan rfl ?_ | refine zW rfl ?_)) (by repeat (first | exact zaD | exact zai rfl | refine zao rfl ?_ | refine zX rfl ?_)) ?_
 clear F0
 rintro ⟨fu, g1, g2⟩ ⟨hl3, F1, hn_g2⟩
 dsimp only at hl3 F1 hn_g2 ⊢
 obtain _ | fu := fu
 · rw [zaQ] at F1; cases F1
 rw [zaQ] at F1
 refine zb (za ?_)
 refine s_lt ?_
 refine zf (zd (zb ?_))
 refine zm F1 ?_ ?_ <;> intro C4 F2
 refine zV 0 (fun B5 => ?_)
 refine zi (zd (zb (zk (zb (za ?_)))))
 obtain ⟨v6, V6, F3⟩ := zc F2
 refine zN Form.row V6 (Form.row_eq _) yE24 ?_
 refine zaq yA32 yS32 ?_
 refine z6 yZ32 ?_
 refine zac yS32 ?_
 refine zf (zd (za ?_))
 refine s_mv ?_
 refine zK yA32 yS32 ?_
 obtain ⟨v7, V7, F4⟩ := zc F3
 refine zv [] (ih_m_spec_l15OwnForm fu (by omega) _ _ V7) ?_
 refine s_bs Form.row [v7] yP24 yR32 ?_
 obtain ⟨hk8, F5⟩ := zah F4
 refine zdT Form.row (fun y => Form.row_len y) hk8 yP24 ?_
 refine s_as ?_
 refine zf (z5 (zd (za ?_)))
 refine zO (zaA C4 B5 hn_g2) ?_
 refine s_mv ?_
 refine zf ?_
 exact s_rn (fu, (g1 ++ [v7]), (g2 + 1)) ⟨by first | omega | (dsimp only; omega), F5, by first | omega | (dsimp only; omega)⟩ [(5020, 17)]
 refine zz (zq (zp (zr (zd (zb (za ?_))))))
 refine s_mv ?_
 refine s_as ?_
 refine zf (zd (zh (zn ?_)))
 cases F2
 exact zl [] [5020] Tryz.results92
theorem m_spec_l15OwnForm_all (fuel : Nat) : zcW fuel ∧ zcN fuel := by
 induction fuel using Nat.strongRecOn with
 | _ N ih =>
   cases N with
   | zero => exact ⟨(by intro x1 r h; rw [zbC] at h; cases h), (by intro x1 r h; rw [zcJ] at h; cases h)⟩
   | succ fu => exact ⟨m_spec_l15OwnForm_st fu (fun k hk => (ih k (by omega)).1) (fun k hk => (ih k (by omega)).2), zg9 fu (fun k hk => (ih k (by omega)).1) (fun k hk => (ih k (by omega)).2)⟩
theorem m_spec_l15OwnForm_ok (fuel : Nat) : zcW fuel := (m_spec_l15OwnForm_all fuel).1
def zfI (fuel : Nat) : Prop := ∀ (x1 : Hit) (x2 : Int) (r : Bool), zeF fuel x1 x2 = some r → AC Tryz.prog 137 [.ag [.t (.sc (.int .i64 x1.name.kind)), .t (.sc (.str x1.name.name)), .t (.sc (.int .i64 x1.name.n)), .t (.sl (x1.name.scopes.map rI)), .t (.sl (x1.name.kids.map Form.row)), .t (.sc (.int .i64 x1.depth)), .t (.sc (.int .i64 x1.one.kind)), .t (.sc (.str x1.one.name)), .t (.sc (.int .i64 x1.one.n)), .t (.sl (x1.one.scopes.map rI)), .t (.sl (x1.one.kids.map Form.row)), .t (.sl (x1.many.map Hit.row))], .t (.sc (.int .i64 x2))] noOb (.t (.sc (.bool r))) noOb
theorem m_spec_l4Hit_st (fu : Nat) (ih_m_spec_l4Hit : ∀ k, k ≤ fu → zfI k) : zfI (fu + 1) := by
 intro x1 x2 r F0
 rw [zeF] at F0
 refine AC_i [.t (.sc (.bool r))] Tryz.func137 rfl Tryz.ntmps137 ?_
 intro C hC
 refine zb (za ?_)
 refine zbh ?_
 refine s_as ?_
 refine zf (zd (zb (zb (za ?_))))
 refine s_fa zfD ?_
 refine zu yA3 ?_
 refine s_mv ?_
 refine s_ne ?_
 refine s_mv ?_
 refine zo _ 10 F0 ?_ ?_ <;> intro C1 F1
 refine r_no rfl (r_no rfl ?_)
 refine zA ?_
 refine s_mv ?_
 refine r_no rfl (r_no rfl ?_)
 refine zA ?_
 refine s_mv ?_
 iterate 4 refine r_no rfl ?_
 refine zA ?_
 refine s_mv ?_
 iterate 4 refine r_no rfl ?_
 refine zA ?_
 refine s_mv ?_
 iterate 4 refine r_no rfl ?_
 refine zA ?_
 refine zf (zd (zM rfl (zb (za ?_))))
 refine s_as ?_
 refine zf (zd (zh (zg (zn ?_))))
 cases F1
 exact zl [] [] Tryz.results137
 refine s_mv ?_
 refine s_lt ?_
 refine zB ?_
 refine s_mv ?_
 refine zo _ 14 F1 ?_ ?_ <;> intro C2 F2
 refine r_no rfl (r_no rfl ?_)
 refine zA ?_
 refine s_mv ?_
 iterate 4 refine r_no rfl ?_
 refine zA ?_
 refine s_mv ?_
 iterate 4 refine r_no rfl ?_
 refine zA ?_
 refine s_mv ?_
 iterate 4 refine r_no rfl ?_
 refine zA ?_
 refine zf (zd (zM rfl (zb (za ?_))))
 refine s_as ?_
 refine zf (zd (zh (zg (zn ?_))))
 cases F2
 exact zl [] [] Tryz.results137
 refine s_mv ?_
 refine s_gt ?_
 refine zB ?_
 refine s_mv ?_
 refine zo _ 18 F2 ?_ ?_ <;> intro C3 F3
 iterate 4 refine r_no rfl ?_
 refine zA ?_
 refine s_mv ?_
 iterate 4 refine r_no rfl ?_
 refine zA ?_
 refine s_mv ?_
 iterate 4 refine r_no rfl ?_
 refine zA ?_
 refine zf (zd (zM rfl (zb (za ?_))))
 refine s_as ?_
 refine zf (zd (zh (zg (zn ?_))))
 cases F3
 exact zl [] [] Tryz.results137
 refine s_fa zeX ?_
 refine zaq yA32 yS32 ?_
 obtain ⟨v4, V4, F4⟩ := zc F3
 refine zv [] (m_spec_l3Is_ok fu _ _ V4) ?_
 refine zby ?_
 refine zB ?_
 refine s_mv ?_
 refine zo _ 24 F4 ?_ ?_ <;> intro C5 F5
 iterate 4 refine r_no rfl ?_
 refine zA ?_
 refine s_mv ?_
 iterate 4 refine r_no rfl ?_
 refine zA ?_
 refine zf (zd (zM rfl (zb (za ?_))))
 refine s_as ?_
 refine zf (zd (zh (zg (zn ?_))))
 cases F5
 exact zl [] [] Tryz.results137
 refine s_fa zeX ?_
 refine s_fa zdm ?_
 refine zu yA9 ?_
 refine zg3 ?_
 refine zB ?_
 refine s_mv ?_
 refine zo _ 30 F5 ?_ ?_ <;> intro C6 F6
 iterate 4 refine r_no rfl ?_
 refine zA ?_
 refine zf (zd (zM rfl (zb (za ?_))))
 refine s_as ?_
 refine zf (zd (zh (zg (zn ?_))))
 cases F6
 exact zl [] [] Tryz.results137
 refine s_fa zeX ?_
 refine s_fa zdm ?_
 refine zu yA9 ?_
 refine zg3 ?_
 refine zB ?_
 refine zf (zd ?_)
 refine zm F6 ?_ ?_ <;> intro C7 F7
 refine zb (za ?_)
 refine s_as ?_
 refine zf (zd (zh (zg (zn ?_))))
 cases F7
 exact zl [] [] Tryz.results137
 refine zi (zd (zb (zb (za ?_))))
 refine s_mv ?_
 refine s_eq ?_
 refine zf (zd ?_)
 refine zm F7 ?_ ?_ <;> intro C8 F8
 refine zb (za ?_)
 refine s_fa yF48_2 ?_
 refine zaq yA32 yS32 ?_
 obtain ⟨v9, V9, F9⟩ := zc F8
 refine zv [] (zaJ fu _ _ V9) ?_
 refine s_mv ?_
 refine zo _ 41 F9 ?_ ?_ <;> intro C10 F10
 refine s_fa zfx ?_
 refine zu yA42 ?_
 refine zE yU42 ?_
 refine s_eq ?_
 refine zA ?_
 refine s_as ?_
 refine zf (zd (zh (zg (zn ?_))))
 cases F10
 exact zl [] [] Tryz.results137
 iterate 4 refine r_no rfl ?_
 refine zB ?_
 refine s_as ?_
 refine zf (zd (zh (zg (zn ?_))))
 cases F10
 exact zl [] [] Tryz.results137
 refine zi (zd (zb (zb (za ?_))))
 refine s_as ?_
 refine zf (zd (zk ?_))
 refine za1 (β := Int) [4, 5, 47, 48, 49, 50, 51, 52, 53, 54, 55, 56, 57, 58, 59, 60, 61, 62, 63, 64, 65, 66, 67, 68, 69, 70, 71, 72, 73, 74] [] [] (fun a => [(5, .t (.sc (.int .i64 a.2)))]) (fun a => []) (fun a => a.1 ≤ fu ∧ zcI a.1 x1 x2 a.2 = some r ∧ 0 ≤ a.2) (fu, 0) ⟨Nat.le_refl _, F8, by simp⟩ ?_
 clear F8
 rintro ⟨fu, g11⟩ ⟨hl12, F9, hn_g11⟩
 dsimp only at hl12 F9 hn_g11 ⊢
 obtain _ | fu := fu
 · rw [zcI] at F9; cases F9
 rw [zcI] at F9
 refine zb (zb (za ?_))
 refine s_mv ?_
 refine s_fa zfx ?_
 refine zu yA42 ?_
 refine zE yU42 ?_
 refine s_lt ?_
 refine zf (zd ?_)
 refine zm F9 ?_ ?_ <;> intro C13 F10
 refine zV 49 (fun B14 => ?_)
 refine zi (zd (zb (zk (zb ?_))))
 refine zY yMix (by kernel_rfl) ?_
 refine s_fa zfx ?_
 refine zu yA42 ?_
 refine s_mv ?_
 obtain ⟨v15, V15, F11⟩ := zc F10
 refine zN Hit.row V15 (Hit.row_eq _) yE42 ?_
 refine s_fa zeX ?_
 refine zaq yA32 yS32 ?_
 refine s_fa zeX ?_
 refine zaq yA32 yS32 ?_
 obtain ⟨v16, V16, F12⟩ := zc F11
 refine zv [] (zb0 fu _ _ _ V16) ?_
 refine zby ?_
 refine s_mv ?_
 refine zo _ 64 F12 ?_ ?_ <;> intro C17 F13
 iterate 9 refine r_no rfl ?_
 refine zA ?_
 refine zal (by kernel_rfl) ?_
 refine zd (zM rfl (zb (za ?_)))
 refine s_as ?_
 refine zf (zd (zh (zj (zg (zx (zj (zg (zn ?_))))))))
 cases F13
 exact zl [] [] Tryz.results137
 refine s_fa zfx ?_
 refine zu yA42 ?_
 refine s_mv ?_
 obtain ⟨v18, V18, F14⟩ := zc F13
 refine zN Hit.row V18 (Hit.row_eq _) yE42 ?_
 refine zaq yA48 yS48 ?_
 refine s_mv ?_
 refine zg1 rfl ?_
 obtain ⟨v19, V19, F15⟩ := zc F14
 refine zv [] (ih_m_spec_l4Hit fu (by omega) _ _ _ V19) ?_
 refine zby ?_
 refine zB ?_
 refine zal (by kernel_rfl) ?_
 refine zd ?_
 refine zm F15 ?_ ?_ <;> intro C20 F16
 refine zb (za ?_)
 refine s_as ?_
 refine zf (zd (zh (zj (zg (zx (zj (zg (zn ?_))))))))
 cases F16
 exact zl [] [] Tryz.results137
 refine zi (z5 (zd (za ?_)))
 refine s_mv ?_
 refine zO (zaA C13 B14 hn_g11) ?_
 refine s_as ?_
 refine zf ?_
 exact s_rn (fu, (g11 + 1)) ⟨by first | omega | (dsimp only; omega), F16, by first | omega | (dsimp only; omega)⟩
 refine zz (zq (zp (zr (zd (zb (za ?_))))))
 refine s_fa yF48_2 ?_
 refine zaq yA32 yS32 ?_
 refine zeC yZ32 yL32 ?_
 obtain ⟨v21, V21, F11⟩ := zc F10
 refine zv [] (zb0 fu _ _ _ V21) ?_
 refine s_mv ?_
 refine zo _ 79 F11 ?_ ?_ <;> intro C22 F12
 refine s_fa zfx ?_
 refine zu yA42 ?_
 refine zE yU42 ?_
 refine s_le ?_
 refine zA ?_
 refine s_as ?_
 refine zf (zd (zh (zn ?_)))
 cases F12
 exact zl [] [] Tryz.results137
 iterate 4 refine r_no rfl ?_
 refine zB ?_
 refine s_as ?_
 refine zf (zd (zh (zn ?_)))
 cases F12
 exact zl [] [] Tryz.results137
theorem m_spec_l4Hit_all (fuel : Nat) : zfI fuel := by
 induction fuel using Nat.strongRecOn with
 | _ N ih =>
   cases N with
   | zero => exact (by intro x1 x2 r h; rw [zeF] at h; cases h)
   | succ fu => exact m_spec_l4Hit_st fu (fun k hk => (ih k (by omega)))
theorem m_spec_l4Hit_ok (fuel : Nat) : zfI fuel := (m_spec_l4Hit_all fuel)
def m_spec_HitsValid_AC (fuel : Nat) : Prop := ∀ (x1 : (List Hit)) (r : Bool), zek fuel x1 = some r → AC Tryz.prog 93 [.t (.sl (x1.map Hit.row))] noOb (.t (.sc (.bool r))) noOb
theorem m_spec_HitsValid_ok (fuel : Nat) : m_spec_HitsValid_AC fuel := by
 intro x1 r F0
 unfold zek at F0
 refine AC_i [.t (.sc (.bool r))] Tryz.func93 rfl Tryz.ntmps93 ?_
 intro C hC
 refine zb (za ?_)
 refine s_as ?_
 refine zf (zd (zb (zb (za ?_))))
 refine s_as ?_
 refine zf (zd (zk ?_))
 refine za1 (β := Int) [2, 3, 4, 5, 6, 7, 8, 9, 10, 11, 12, 13, 14, 15, 16, 17, 18, 19, 20, 21, 22, 23, 24, 25, 26, 27, 28, 29, 30, 31, 32, 33, 34, 35, 36, 37, 38, 39, 40, 41] [] [] (fun a => [(2, .t (.sc (.bool false))), (3, .t (.sc (.int .i64 a.2)))]) (fun a => []) (fun a => a.1 ≤ fuel ∧ zbn a.1 x1 a.2 = some r) (fuel, 0) ⟨Nat.le_refl _, F0⟩ ?_
 clear F0
 rintro ⟨fu, g1⟩ ⟨hl2, F1⟩
 dsimp only at hl2 F1 ⊢
 obtain _ | fu := fu
 · rw [zbn] at F1; cases F1
 rw [zbn] at F1
 refine zb (zb (za ?_))
 refine s_mv ?_
 refine s_mv ?_
 refine zE yU42 ?_
 refine s_lt ?_
 refine s_mv ?_
 refine zo _ 9 F1 ?_ ?_ <;> intro C3 F2
 refine s_mv ?_
 refine s_le ?_
 refine zA ?_
 refine zf (zd ?_)
 refine zm F2 ?_ ?_ <;> intro C4 F3
 refine zi (zd (zb (zk (zb (zb ?_)))))
 refine zY yMix (by kernel_rfl) ?_
 refine s_mv ?_
 refine s_mv ?_
 obtain ⟨v5, V5, F4⟩ := zc F3
 refine zN Hit.row V5 (Hit.row_eq _) yE42 ?_
 refine zaq yA48 yS48 ?_
 refine s_mv ?_
 refine s_mv ?_
 obtain ⟨v6, V6, F5⟩ := zc F4
 refine zN Hit.row V6 (Hit.row_eq _) yE42 ?_
 refine s_fa zfD ?_
 refine zu yA3 ?_
 obtain ⟨v7, V7, F6⟩ := zc F5
 refine zv [] (m_spec_l4Hit_ok fu _ _ _ V7) ?_
 refine zby ?_
 refine zal (by kernel_rfl) ?_
 refine zd ?_
 refine zm F6 ?_ ?_ <;> intro C8 F7
 refine zb (za ?_)
 refine s_as ?_
 refine zf (zd (zh (zg (zj (zg (zx (zj (zg (zn ?_)))))))))
 cases F7
 exact zl [] [] Tryz.results93
 refine zi (zd (zb (za ?_)))
 refine s_as ?_
 refine zf (zd (zk ?_))
 refine za1 (β := Int) [2, 4, 26, 27, 28, 29, 30, 31, 32, 33, 34, 35, 36, 37, 38, 39, 40, 41] [] [] (fun a => [(2, .t (.sc (.bool false))), (4, .t (.sc (.int .i64 a.2)))]) (fun a => []) (fun a => a.1 ≤ fu ∧ zbm a.1 x1 g1 a.2 = some r) (fu, 0) ⟨Nat.le_refl _, F7⟩ ?_
 clear F7
 rintro ⟨fu, g9⟩ ⟨hl10, F8⟩
 dsimp only at hl10 F8 ⊢
 obtain _ | fu := fu
 · rw [zbm] at F8; cases F8
 rw [zbm] at F8
 refine zb (zb (za ?_))
 refine s_mv ?_
 refine s_mv ?_
 refine s_lt ?_
 refine zf (zd ?_)
 refine zm F8 ?_ ?_ <;> intro C11 F9
 refine zi (zd (zb (zk (zb ?_))))
 refine zY yMix (by kernel_rfl) ?_
 refine s_mv ?_
 refine s_mv ?_
 obtain ⟨v12, V12, F10⟩ := zc F9
 refine zN Hit.row V12 (Hit.row_eq _) yE42 ?_
 refine s_fa zeX ?_
 refine zaq yA32 yS32 ?_
 refine s_mv ?_
 refine s_mv ?_
 obtain ⟨v13, V13, F11⟩ := zc F10
 refine zN Hit.row V13 (Hit.row_eq _) yE42 ?_
 refine s_fa zeX ?_
 refine zaq yA32 yS32 ?_
 obtain ⟨v14, V14, F12⟩ := zc F11
 refine zv [] (zb0 fu _ _ _ V14) ?_
 refine zal (by kernel_rfl) ?_
 refine zd ?_
 refine zm F12 ?_ ?_ <;> intro C15 F13
 refine zb (za ?_)
 refine s_as ?_
 refine zf (zd (zh (zj (zg (zx (zj (zj (zg (zx (zj (zg (zn ?_))))))))))))
 cases F13
 exact zl [] [] Tryz.results93
 refine zi (z5 (zd (za ?_)))
 refine s_mv ?_
 refine zO rfl ?_
 refine s_as ?_
 refine zf ?_
 exact s_rn (fu, (w64 (g9 + 1))) ⟨by first | omega | (dsimp only; omega), F13⟩
 refine zz (zq (zp (zr (z5 (zd (za ?_))))))
 refine s_mv ?_
 refine zO rfl ?_
 refine s_as ?_
 refine zf ?_
 exact s_rn (fu, (w64 (g1 + 1))) ⟨by first | omega | (dsimp only; omega), F9⟩
 refine zz (zq (zp (zr (zd (zb (za ?_))))))
 refine s_mv ?_
 refine zE yU42 ?_
 refine s_le ?_
 refine s_as ?_
 refine zf (zd (zh (zn ?_)))
 cases F3
 exact zl [] [] Tryz.results93
 refine r_no rfl (r_no rfl ?_)
 refine zB ?_
 refine zf (zd (zaI rfl (zz (zq (zp (zr (zd (zb (za ?_)))))))))
 refine s_mv ?_
 refine zE yU42 ?_
 refine s_le ?_
 refine s_as ?_
 refine zf (zd (zh (zn ?_)))
 cases F2
 exact zl [] [] Tryz.results93
def zhp (fuel : Nat) : Prop := ∀ (x1 : Form) (x2 : (List Hit)) (r : Bool), zcX fuel x1 x2 = some r → AC Tryz.prog 45 [.ag [.t (.sc (.int .i64 x1.kind)), .t (.sc (.str x1.name)), .t (.sc (.int .i64 x1.n)), .t (.sl (x1.scopes.map rI)), .t (.sl (x1.kids.map Form.row))], .t (.sl (x2.map Hit.row))] noOb (.t (.sc (.bool r))) noOb
theorem zho (fuel : Nat) : zhp fuel := by
 intro x1 x2 r F0
 unfold zcX at F0
 refine AC_i [.t (.sc (.bool r))] Tryz.func45 rfl Tryz.ntmps45 ?_
 intro C hC
 refine zb (za ?_)
 refine zbh ?_
 refine s_as ?_
 refine zf (zd (zb (za ?_)))
 refine zK yA32 yS32 ?_
 obtain ⟨v1, V1, F1⟩ := zc F0
 refine zv [] (zaJ fuel _ _ V1) ?_
 refine s_mv ?_
 refine zo _ 7 F1 ?_ ?_ <;> intro C2 F2
 refine s_mv ?_
 obtain ⟨v3, V3, F3⟩ := zc F2
 refine zv [] (m_spec_HitsValid_ok fuel _ _ V3) ?_
 refine zA ?_
 refine s_mv ?_
 refine zo _ 11 F3 ?_ ?_ <;> intro C4 F4
 refine zK yA32 yS32 ?_
 refine s_mv ?_
 obtain ⟨v5, V5, F5⟩ := zc F4
 refine zv [] (m_spec_l5Is_ok fuel _ _ _ V5) ?_
 refine zA ?_
 refine s_as ?_
 refine zf (zd (zh (zn ?_)))
 cases F5
 exact zl [] [] Tryz.results45
 iterate 3 refine r_no rfl ?_
 refine zB ?_
 refine s_as ?_
 refine zf (zd (zh (zn ?_)))
 cases F4
 exact zl [] [] Tryz.results45
 refine r_no rfl (r_no rfl ?_)
 refine zB ?_
 refine s_mv ?_
 iterate 3 refine r_no rfl ?_
 refine zB ?_
 refine s_as ?_
 refine zf (zd (zh (zn ?_)))
 cases F2
 exact zl [] [] Tryz.results45
def zfb (fuel : Nat) : Prop := ∀ (x1 : Form) (x2 : Form) (r : Bool), zdv fuel x1 x2 = some r → AC Tryz.prog 141 [.ag [.t (.sc (.int .i64 x1.kind)), .t (.sc (.str x1.name)), .t (.sc (.int .i64 x1.n)), .t (.sl (x1.scopes.map rI)), .t (.sl (x1.kids.map Form.row))], .ag [.t (.sc (.int .i64 x2.kind)), .t (.sc (.str x2.name)), .t (.sc (.int .i64 x2.n)), .t (.sl (x2.scopes.map rI)), .t (.sl (x2.kids.map Form.row))]] noOb (.t (.sc (.bool r))) noOb
theorem m_spec_l5Uses_st (fu : Nat) (ih_m_spec_l5Uses : ∀ k, k ≤ fu → zfb k) : zfb (fu + 1) := by
 intro x1 x2 r F0
 rw [zdv] at F0
 refine AC_i [.t (.sc (.bool r))] Tryz.func141 rfl Tryz.ntmps141 ?_
 intro C hC
 refine zb (za ?_)
 refine zbh ?_
 refine zbh ?_
 refine s_as ?_
 refine zf (zd ?_)
 refine zbt (α := Nat) [4, 6, 7, 8, 9, 10, 11, 12, 13] [] [] (fun a => []) (fun a => []) (fun a => a ≤ fu ∧ zcO a x1 x2  = some r) ?_ ?_
 refine zb (za ?_)
 refine s_fa zc2 ?_
 refine zu yA3 ?_
 refine s_eq ?_
 refine s_mv ?_
 refine zo _ 9 F0 ?_ ?_ <;> intro C1 F1
 refine zK yA32 yS32 ?_
 refine zK yA32 yS32 ?_
 obtain ⟨v2, V2, F2⟩ := zc F1
 refine zv [] (zb0 fu _ _ _ V2) ?_
 refine zA ?_
 refine zf (zd ?_)
 refine zm F2 ?_ ?_ <;> intro C3 F3
 refine zb (za ?_)
 refine s_as ?_
 refine zf (zd (zh (zeW (zn ?_))))
 cases F3
 exact zl [] [] Tryz.results141
 refine zi ?_
 exact s_jn (fu) ⟨by first | omega | (dsimp only; omega), F3⟩
 iterate 3 refine r_no rfl ?_
 refine zB ?_
 refine zf (zd (zaI rfl (zi ?_)))
 exact s_jn (fu) ⟨by first | omega | (dsimp only; omega), F1⟩
 clear F0
 rintro fu ⟨hl4, F1⟩
 obtain _ | fu := fu
 · rw [zcO] at F1; cases F1
 rw [zcO] at F1
 refine zb (zb (za ?_))
 refine s_as ?_
 refine zf (zd (zk ?_))
 refine za1 (β := Int) [4, 5, 14, 15, 16, 17, 18, 19, 20, 21, 22, 23, 24, 25, 26, 27] [] [] (fun a => [(5, .t (.sc (.int .i64 a.2)))]) (fun a => []) (fun a => a.1 ≤ fu ∧ zb8 a.1 x1 x2 a.2 = some r ∧ 0 ≤ a.2) (fu, 0) ⟨Nat.le_refl _, F1, by simp⟩ ?_
 clear F1
 rintro ⟨fu, g5⟩ ⟨hl6, F2, hn_g5⟩
 dsimp only at hl6 F2 hn_g5 ⊢
 obtain _ | fu := fu
 · rw [zb8] at F2; cases F2
 rw [zb8] at F2
 refine zb (zb (za ?_))
 refine s_mv ?_
 refine s_fa zH ?_
 refine zu yA24 ?_
 refine zE yU24 ?_
 refine s_lt ?_
 refine zf (zd ?_)
 refine zm F2 ?_ ?_ <;> intro C7 F3
 refine zV 16 (fun B8 => ?_)
 refine zi (zd (zb (zk (zb ?_))))
 refine zY yMix (by kernel_rfl) ?_
 refine s_fa zH ?_
 refine zu yA24 ?_
 refine s_mv ?_
 obtain ⟨v9, V9, F4⟩ := zc F3
 refine zN Form.row V9 (Form.row_eq _) yE24 ?_
 refine zaq yA32 yS32 ?_
 refine zK yA32 yS32 ?_
 obtain ⟨v10, V10, F5⟩ := zc F4
 refine zv [] (ih_m_spec_l5Uses fu (by omega) _ _ _ V10) ?_
 refine zal (by kernel_rfl) ?_
 refine zd ?_
 refine zm F5 ?_ ?_ <;> intro C11 F6
 refine zb (za ?_)
 refine s_as ?_
 refine zf (zd (zh (zj (zg (zx (zj (zg (zn ?_))))))))
 cases F6
 exact zl [] [] Tryz.results141
 refine zi (z5 (zd (za ?_)))
 refine s_mv ?_
 refine zO (zaA C7 B8 hn_g5) ?_
 refine s_as ?_
 refine zf ?_
 exact s_rn (fu, (g5 + 1)) ⟨by first | omega | (dsimp only; omega), F6, by first | omega | (dsimp only; omega)⟩
 refine zz (zq (zp (zr (zd (zb (za ?_))))))
 refine s_as ?_
 refine zf (zd (zh (zn ?_)))
 cases F3
 exact zl [] [] Tryz.results141
theorem m_spec_l5Uses_all (fuel : Nat) : zfb fuel := by
 induction fuel using Nat.strongRecOn with
 | _ N ih =>
   cases N with
   | zero => exact (by intro x1 x2 r h; rw [zdv] at h; cases h)
   | succ fu => exact m_spec_l5Uses_st fu (fun k hk => (ih k (by omega)))
theorem m_spec_l5Uses_ok (fuel : Nat) : zfb fuel := (m_spec_l5Uses_all fuel)
def m_spec_l5Count_AC (fuel : Nat) : Prop := ∀ (x1 : Form) (x2 : (List Hit)) (r : Int), ze2 fuel x1 x2 = some r → AC Tryz.prog 96 [.ag [.t (.sc (.int .i64 x1.kind)), .t (.sc (.str x1.name)), .t (.sc (.int .i64 x1.n)), .t (.sl (x1.scopes.map rI)), .t (.sl (x1.kids.map Form.row))], .t (.sl (x2.map Hit.row))] noOb (.t (.sc (.int .i64 r))) noOb
theorem m_spec_l5Count_ok (fuel : Nat) : m_spec_l5Count_AC fuel := by
 intro x1 x2 r F0
 unfold ze2 at F0
 refine AC_i [.t (.sc (.int .i64 r))] Tryz.func96 rfl Tryz.ntmps96 ?_
 intro C hC
 refine zb (za ?_)
 refine zbh ?_
 refine s_as ?_
 refine zf (zd (zb (za ?_)))
 refine s_as ?_
 refine zf (zd (zb (zb (za ?_))))
 refine s_as ?_
 refine zf (zd (zk ?_))
 refine za1 (β := Int × Int) [4, 5, 6, 7, 8, 9, 10, 11, 12, 13, 14, 15, 16, 17, 18, 19, 20, 21, 22, 23, 24, 25, 26, 27, 28, 29, 30, 31, 32, 33, 34, 35, 36, 37, 38, 39, 40, 41, 42, 43, 44, 45, 46] [] [] (fun a => [(5, .t (.sc (.int .i64 a.2.2))), (6, .t (.sc (.int .i64 a.2.1)))]) (fun a => []) (fun a => a.1 ≤ fuel ∧ zbA a.1 x1 x2 a.2.1 a.2.2 = some r ∧ 0 ≤ a.2.1) (fuel, 0, (-1)) ⟨Nat.le_refl _, F0, by simp⟩ ?_
 clear F0
 rintro ⟨fu, g1, g2⟩ ⟨hl3, F1, hn_g1⟩
 dsimp only at hl3 F1 hn_g1 ⊢
 obtain _ | fu := fu
 · rw [zbA] at F1; cases F1
 rw [zbA] at F1
 refine zb (zb (za ?_))
 refine s_mv ?_
 refine s_mv ?_
 refine zE yU42 ?_
 refine s_lt ?_
 refine zf (zd ?_)
 refine zm F1 ?_ ?_ <;> intro C4 F2
 refine zV 1 (fun B5 => ?_)
 refine zi (zd (zb (zk (zb ?_))))
 refine zbt (α := Nat × Bool) [13, 14, 15, 16, 17, 18, 19, 20, 21, 22, 23, 24, 25, 26, 27, 28] [] [] (fun a => [(28, .t (.sc (.bool a.2)))]) (fun a => []) (fun a => a.1 ≤ fu ∧ zbS a.1 x1 x2 g1 g2 a.2 = some r) ?_ ?_
 refine zY yMix (by kernel_rfl) ?_
 refine s_mv ?_
 refine s_mv ?_
 obtain ⟨v6, V6, F3⟩ := zc F2
 refine zN Hit.row V6 (Hit.row_eq _) yE42 ?_
 refine s_fa zfD ?_
 refine zu yA3 ?_
 refine s_eq ?_
 refine s_mv ?_
 refine zo _ 19 F3 ?_ ?_ <;> intro C7 F4
 iterate 8 refine r_no rfl ?_
 refine zA ?_
 refine zal (by kernel_rfl) ?_
 exact s_jn (fu, true) ⟨by first | omega | (dsimp only; omega), F4⟩
 refine zK yA32 yS32 ?_
 refine s_mv ?_
 refine s_mv ?_
 obtain ⟨v8, V8, F5⟩ := zc F4
 refine zN Hit.row V8 (Hit.row_eq _) yE42 ?_
 refine s_fa zeX ?_
 refine zaq yA32 yS32 ?_
 obtain ⟨v9, V9, F6⟩ := zc F5
 refine zv [] (m_spec_l5Uses_ok fu _ _ _ V9) ?_
 refine zby ?_
 refine zB ?_
 refine zal (by kernel_rfl) ?_
 exact s_jn (fu, (!v9)) ⟨by first | omega | (dsimp only; omega), F6⟩
 clear F2
 rintro ⟨fu, g10⟩ ⟨hl11, F3⟩
 dsimp only at hl11 F3 ⊢
 obtain _ | fu := fu
 · rw [zbS] at F3; cases F3
 rw [zbS] at F3
 refine zm F3 ?_ ?_ <;> intro C12 F4
 refine zz (zq (zr (zd (za ?_))))
 refine s_mv ?_
 refine zO (zaA C4 B5 hn_g1) ?_
 refine s_as ?_
 refine zf ?_
 exact s_rn (fu, (g1 + 1), g2) ⟨by first | omega | (dsimp only; omega), F4, by first | omega | (dsimp only; omega)⟩
 refine zi (zd ?_)
 refine zbt (α := Nat) [4, 29, 30, 31, 32, 33, 34, 35, 36, 37, 38, 39, 40] [] [] (fun a => []) (fun a => []) (fun a => a ≤ fu ∧ zcs a x1 x2 g1  = some r) ?_ ?_
 refine zb (za ?_)
 refine s_mv ?_
 refine s_ge ?_
 refine s_mv ?_
 refine zo _ 31 F4 ?_ ?_ <;> intro C13 F5
 iterate 3 refine s_mv ?_
 obtain ⟨v14, V14, F6⟩ := zc F5
 refine zN Hit.row V14 (Hit.row_eq _) yE42 ?_
 refine s_fa zfx ?_
 refine zu yA42 ?_
 refine zE yU42 ?_
 refine s_ne ?_
 refine zA ?_
 refine zf (zd ?_)
 refine zm F6 ?_ ?_ <;> intro C15 F7
 refine zb (za ?_)
 refine s_as ?_
 refine zf (zd (zh (zeW (zj (zg (zx (zj (zg (zn ?_)))))))))
 cases F7
 exact zl [] [] Tryz.results96
 refine zi ?_
 exact s_jn (fu) ⟨by first | omega | (dsimp only; omega), F7⟩
 iterate 8 refine r_no rfl ?_
 refine zB ?_
 refine zf (zd (zaI rfl (zi ?_)))
 exact s_jn (fu) ⟨by first | omega | (dsimp only; omega), F5⟩
 clear F4
 rintro fu ⟨hl16, F5⟩
 obtain _ | fu := fu
 · rw [zcs] at F5; cases F5
 rw [zcs] at F5
 refine za ?_
 refine s_mv ?_
 refine s_mv ?_
 obtain ⟨v17, V17, F6⟩ := zc F5
 refine zN Hit.row V17 (Hit.row_eq _) yE42 ?_
 refine s_fa zfx ?_
 refine zu yA42 ?_
 refine zE yU42 ?_
 refine s_as ?_
 refine zf (z5 (zd (za ?_)))
 refine s_mv ?_
 refine zO (zaA C4 B5 hn_g1) ?_
 refine s_as ?_
 refine zf ?_
 exact s_rn (fu, (g1 + 1), (v17.many.length : Int)) ⟨by first | omega | (dsimp only; omega), F6, by first | omega | (dsimp only; omega)⟩
 refine zz (zq (zp (zr (zd (zb (za ?_))))))
 refine s_mv ?_
 refine s_as ?_
 refine zf (zd (zh (zn ?_)))
 cases F2
 exact zl [] [] Tryz.results96
def m_spec_l5Nth_AC (fuel : Nat) : Prop := ∀ (x1 : Form) (x2 : (List Hit)) (x3 : Int) (r : (List Hit)), zfy fuel x1 x2 x3 = some r → AC Tryz.prog 97 [.ag [.t (.sc (.int .i64 x1.kind)), .t (.sc (.str x1.name)), .t (.sc (.int .i64 x1.n)), .t (.sl (x1.scopes.map rI)), .t (.sl (x1.kids.map Form.row))], .t (.sl (x2.map Hit.row)), .t (.sc (.int .i64 x3))] noOb (.t (.sl (r.map Hit.row))) noOb
theorem m_spec_l5Nth_ok (fuel : Nat) : m_spec_l5Nth_AC fuel := by
 intro x1 x2 x3 r F0
 unfold zfy at F0
 refine AC_i [.t (.sl (r.map Hit.row))] Tryz.func97 rfl Tryz.ntmps97 ?_
 intro C hC
 refine zb (za ?_)
 refine zbh ?_
 refine s_as ?_
 refine zf (zd (zb (za ?_)))
 refine s_bs Hit.row ([] : List Hit) yP42 yR48 ?_
 refine s_as ?_
 refine zf (zd (zb (zb (za ?_))))
 refine s_as ?_
 refine zf (zd (zk ?_))
 refine zco 7 10 5020 (by conv => lhs; whnf) (by conv => lhs; whnf) rfl ?_
 refine zap [7, 8, 9, 11, 12, 13, 14, 15, 16, 17, 18, 19, 20, 21, 22, 23, 24, 25, 26, 27, 28, 29, 30, 31, 32, 33, 34, 35, 36, 37, 38] [5020] [9, 37, 38] [5020] (fun a : Nat × (List Hit) × Int => a.1) (fun a : Nat × (List Hit) × Int => [(7, .ar 5020), (8, .t (.sc (.int .i64 a.2.2)))]) (fun a : Nat × (List Hit) × Int => [(5020, .arr (a.2.1.map Hit.row) 48 true)]) (fun a : Nat × (List Hit) × Int => a.1 ≤ fuel ∧ zbZ a.1 x1 x2 x3 a.2.1 a.2.2 = some r ∧ 0 ≤ a.2.2) (fuel, ([] : List Hit), 0) ⟨Nat.le_refl _, F0, by simp⟩ (by rfl) (by rfl) (fun _ => rfl) (zG (by conv => lhs; whnf) (by rfl) (zG (by conv => lhs; whnf) (by rfl) za2)) (zT (by conv => lhs; whnf) (by rfl) zaS) (zbV hC rfl) (by repeat (first | exact zad rfl | refine zan rfl ?_ | refine zW rfl ?_)) (by repeat (first | exact zaD | exact zai rfl | refine zao rfl ?_ | refine zX rfl ?_)) ?_
 clear F0
 rintro ⟨fu, g1, g2⟩ ⟨hl3, F1, hn_g2⟩
 dsimp only at hl3 F1 hn_g2 ⊢
 obtain _ | fu := fu
 · rw [zbZ] at F1; cases F1
 rw [zbZ] at F1
 refine zb (zb (za ?_))
 refine s_mv ?_
 refine s_mv ?_
 refine zE yU42 ?_
 refine s_lt ?_
 refine zf (zd ?_)
 refine zm F1 ?_ ?_ <;> intro C4 F2
 refine zV 1 (fun B5 => ?_)
 refine zi (zd (zb (zk (zb (za ?_)))))
 refine s_mv ?_
 refine s_mv ?_
 obtain ⟨v6, V6, F3⟩ := zc F2
 refine zN Hit.row V6 (Hit.row_eq _) yE42 ?_
 refine zaq yA48 yS48 ?_
 refine z6 yZ48 ?_
 refine zac yS48 ?_
 refine zf (zd (zb ?_))
 refine zbt (α := Nat × Bool) [21, 22, 23, 24, 25, 26, 27, 28, 29] [] [] (fun a => [(29, .t (.sc (.bool a.2)))]) (fun a => []) (fun a => a.1 ≤ fu ∧ zcF a.1 x1 x2 x3 g1 g2 v6 a.2 = some r) ?_ ?_
 refine za ?_
 refine s_fa zfD ?_
 refine zu yA3 ?_
 refine s_gt ?_
 refine s_mv ?_
 refine zo _ 24 F3 ?_ ?_ <;> intro C7 F4
 refine zK yA32 yS32 ?_
 refine s_fa zeX ?_
 refine zaq yA32 yS32 ?_
 obtain ⟨v8, V8, F5⟩ := zc F4
 refine zv [] (m_spec_l5Uses_ok fu _ _ _ V8) ?_
 refine zA ?_
 refine zf ?_
 exact s_jn (fu, v8) ⟨by first | omega | (dsimp only; omega), F5⟩
 iterate 4 refine r_no rfl ?_
 refine zB ?_
 refine zf ?_
 exact s_jn (fu, false) ⟨by first | omega | (dsimp only; omega), F4⟩
 clear F3
 rintro ⟨fu, g9⟩ ⟨hl10, F4⟩
 dsimp only at hl10 F4 ⊢
 obtain _ | fu := fu
 · rw [zcF] at F4; cases F4
 rw [zcF] at F4
 refine zm F4 ?_ ?_ <;> intro C11 F5
 refine za ?_
 refine s_fa zfx ?_
 refine zu yA42 ?_
 refine s_mv ?_
 obtain ⟨v12, V12, F6⟩ := zc F5
 refine zN Hit.row V12 (Hit.row_eq _) yE42 ?_
 refine zaq yA48 yS48 ?_
 refine zac yS48 ?_
 refine zf (zd (za ?_))
 refine s_mv ?_
 refine zK yA48 yS48 ?_
 refine s_bs Hit.row [v12] yP42 yR48 ?_
 obtain ⟨hk13, F7⟩ := zah F6
 refine zdT Hit.row (fun y => Hit.row_len y) hk13 yP42 ?_
 refine s_as ?_
 refine zf (z5 (zd (za ?_)))
 refine s_mv ?_
 refine zO (zaA C4 B5 hn_g2) ?_
 refine s_as ?_
 refine zf ?_
 exact s_rn (fu, (g1 ++ [v12]), (g2 + 1)) ⟨by first | omega | (dsimp only; omega), F7, by first | omega | (dsimp only; omega)⟩ [(5020, 38)]
 refine zi (zd (za ?_))
 refine s_mv ?_
 refine zK yA48 yS48 ?_
 refine s_bs Hit.row [v6] yP42 yR48 ?_
 obtain ⟨hk14, F6⟩ := zah F5
 refine zdT Hit.row (fun y => Hit.row_len y) hk14 yP42 ?_
 refine s_as ?_
 refine zf (z5 (zd (za ?_)))
 refine s_mv ?_
 refine zO (zaA C4 B5 hn_g2) ?_
 refine s_as ?_
 refine zf ?_
 exact s_rn (fu, (g1 ++ [v6]), (g2 + 1)) ⟨by first | omega | (dsimp only; omega), F6, by first | omega | (dsimp only; omega)⟩ [(5020, 38)]
 refine zz (zq (zp (zr (zd (zb (za ?_))))))
 refine s_mv ?_
 refine s_as ?_
 refine zf (zd (zh (zn ?_)))
 cases F2
 exact zl [] [5020] Tryz.results97
def zfd (fuel : Nat) : Prop := ∀ (x1 : Form) (x2 : (List Hit)) (r : (Form × Bool)), zc1 fuel x1 x2 = some r → AC Tryz.prog 46 [.ag [.t (.sc (.int .i64 x1.kind)), .t (.sc (.str x1.name)), .t (.sc (.int .i64 x1.n)), .t (.sl (x1.scopes.map rI)), .t (.sl (x1.kids.map Form.row))], .t (.sl (x2.map Hit.row))] noOb (.tp [.ag [.t (.sc (.int .i64 r.1.kind)), .t (.sc (.str r.1.name)), .t (.sc (.int .i64 r.1.n)), .t (.sl (r.1.scopes.map rI)), .t (.sl (r.1.kids.map Form.row))], .t (.sc (.bool r.2))]) noOb
theorem m_spec_l5Fill_st (fu : Nat) (ih_m_spec_l5Fill : ∀ k, k ≤ fu → zfd k) : zfd (fu + 1) := by
 intro x1 x2 r F0
 rw [zc1] at F0
 refine AC_i [.ag [.t (.sc (.int .i64 r.1.kind)), .t (.sc (.str r.1.name)), .t (.sc (.int .i64 r.1.n)), .t (.sl (r.1.scopes.map rI)), .t (.sl (r.1.kids.map Form.row))], .t (.sc (.bool r.2))] Tryz.func46 rfl Tryz.ntmps46 ?_
 intro C hC
 refine zb (za ?_)
 refine zbh ?_
 refine z6 yZ32 ?_
 refine s_as ?_
 refine zf (zd (zb (za ?_)))
 refine s_as ?_
 refine zf (zd ?_)
 refine zbt (α := Nat × Int) [6, 16, 17, 18, 19, 20, 21] [] [] (fun a => [(6, .t (.sc (.int .i64 a.2)))]) (fun a => []) (fun a => a.1 ≤ fu ∧ zce a.1 x1 x2 a.2 = some r) ?_ ?_
 refine zb (za ?_)
 refine s_fa zc2 ?_
 refine zu yA3 ?_
 refine s_eq ?_
 refine zf (zd ?_)
 refine zm F0 ?_ ?_ <;> intro C1 F1
 refine za ?_
 refine s_mv ?_
 refine zK yA32 yS32 ?_
 obtain ⟨v2, V2, F2⟩ := zc F1
 refine zv [] (m_spec_l4Find_ok fu _ _ _ V2) ?_
 refine s_as ?_
 refine zf ?_
 exact s_jn (fu, v2) ⟨by first | omega | (dsimp only; omega), F2⟩
 refine zi ?_
 exact s_jn (fu, (-1)) ⟨by first | omega | (dsimp only; omega), F1⟩
 clear F0
 rintro ⟨fu, g3⟩ ⟨hl4, F1⟩
 dsimp only at hl4 F1 ⊢
 obtain _ | fu := fu
 · rw [zce] at F1; cases F1
 rw [zce] at F1
 refine zb (zb (za ?_))
 refine s_mv ?_
 refine s_ge ?_
 refine zf (zd ?_)
 refine zm F1 ?_ ?_ <;> intro C5 F2
 refine zb ?_
 refine zY yMix (by kernel_rfl) ?_
 refine s_mv ?_
 refine s_mv ?_
 obtain ⟨v6, V6, F3⟩ := zc F2
 refine zN Hit.row V6 (Hit.row_eq _) yE42 ?_
 refine s_fa yF48_2 ?_
 refine zaq yA32 yS32 ?_
 obtain ⟨v7, V7, F4⟩ := zc F3
 refine zZ [(9203, 2029), (9204, 12029)] [] _ _ (zbN fu _ _ V7) ?_
 refine s_mv ?_
 refine s_mv ?_
 obtain ⟨v8, V8, F5⟩ := zc F4
 refine zN Hit.row V8 (Hit.row_eq _) yE42 ?_
 refine s_fa zfD ?_
 refine zu yA3 ?_
 refine s_eq ?_
 refine zac yS32 ?_
 refine s_as ?_
 refine zal (by kernel_rfl) ?_
 refine zd (zh (zg (zn ?_)))
 cases F5
 exact zI [] [2029, 12029] (by rw [Tryz.results46]; exact (z8 (by conv => lhs; whnf) (by conv => lhs; whnf) yA32 yS32 rfl (zae (by conv => lhs; whnf) zR)))
 refine zi (zd (zb ?_))
 refine zY yMix (by kernel_rfl) ?_
 refine s_fa zc2 ?_
 refine zu yA3 ?_
 refine s_fa zdm ?_
 refine zu yA9 ?_
 refine s_fa zf9 ?_
 refine zu yA3 ?_
 refine s_bs rI ([] : List Int) yP27 yR3 ?_
 refine s_fa zeY ?_
 refine zu yA27 ?_
 obtain ⟨hk9, F3⟩ := zah F2
 refine zdT rI (fun _ => rfl) hk9 yP27 ?_
 refine zeC yZ32 yL32 ?_
 refine z6 yZ32 ?_
 refine zac yS32 ?_
 refine zal (by kernel_rfl) ?_
 refine zd (zb (za ?_))
 refine s_as ?_
 refine zf (zd (zb (zb (za ?_))))
 refine s_as ?_
 refine zf (zd (zk ?_))
 refine zgW 7 5040 32 [.t (.sc (.int .i64 x1.kind)), .t (.sc (.str x1.name)), .t (.sc (.int .i64 x1.n)), .ar 45, .ar 5040] yI32.choose_spec ?_
 refine zap [5, 8, 9, 10, 11, 12, 13, 14, 15, 47, 48, 49, 50, 51, 52, 53, 54, 55, 56, 57, 58, 59, 60, 61, 62, 63, 64, 65, 66, 67, 68, 69, 70, 71, 72, 73, 74, 75, 76, 77, 78, 79, 80, 81, 82, 83, 84, 85, 86, 87, 88, 89, 90, 91, 92, 93, 94, 95, 96, 97, 98, 99, 100, 101, 102, 103, 104, 105, 106, 107, 108, 109, 110, 111, 112, 113, 114, 115, 116, 117, 118, 119, 120, 121, 122, 123, 124, 125, 126, 127] [7, 5040] [5100] [5040] (fun a : Nat × Int × Int × (List Form) => a.1) (fun a : Nat × Int × Int × (List Form) => [(5, .t (.sc (.bool false))), (8, .t (.sc (.int .i64 a.2.2.1))), (9, .t (.sc (.int .i64 a.2.1)))]) (fun a : Nat × Int × Int × (List Form) => [(7, .box [.t (.sc (.int .i64 x1.kind)), .t (.sc (.str x1.name)), .t (.sc (.int .i64 x1.n)), .ar 45, .ar 5040]), (5040, .arr (a.2.2.2.map Form.row) 32 true)]) (fun a : Nat × Int × Int × (List Form) => a.1 ≤ fu ∧ zbv a.1 x1 x2 a.2.1 a.2.2.1 a.2.2.2 = some r) (fu, 0, 0, ([] : List Form)) ⟨Nat.le_refl _, F3⟩ (by rfl) (by rfl) (fun _ => rfl) (zG (by conv => lhs; whnf) (by rfl) (zG (by conv => lhs; whnf) (by rfl) (zG (by conv => lhs; whnf) (by rfl) za2))) (zT (by conv => lhs; whnf) (by rfl) (zT (by conv => lhs; whnf) (by rfl) zaS)) (zbV hC rfl) (by repeat (first | exact zad rfl | refine zan rfl ?_ | refine zW rfl ?_)) (by repeat (first | exact zaD | exact zai rfl | refine zao rfl ?_ | refine zX rfl ?_)) ?_
 clear F3
 rintro ⟨fu, g10, g11, g12⟩ ⟨hl13, F4⟩
 dsimp only at hl13 F4 ⊢
 obtain _ | fu := fu
 · rw [zbv] at F4; cases F4
 rw [zbv] at F4
 refine zb (zb (za ?_))
 refine s_mv ?_
 refine s_fa zH ?_
 refine zu yA24 ?_
 refine zE yU24 ?_
 refine s_lt ?_
 refine zf (zd ?_)
 refine zm F4 ?_ ?_ <;> intro C14 F5
 refine zV 49 (fun B15 => ?_)
 refine zi (zd (zb (zk (zb (zb (za ?_))))))
 refine s_fa zH ?_
 refine zu yA24 ?_
 refine s_mv ?_
 obtain ⟨v16, V16, F6⟩ := zc F5
 refine zN Form.row V16 (Form.row_eq _) yE24 ?_
 refine zaq yA32 yS32 ?_
 obtain ⟨v17, V17, F7⟩ := zc F6
 refine zv [] (zaF fu _ _ V17) ?_
 refine zf (zd ?_)
 refine zm F7 ?_ ?_ <;> intro C18 F8
 refine zz (zq (zr (zd (za ?_))))
 refine s_mv ?_
 refine zO (zaA C14 B15 (zfs V16).1) ?_
 refine s_as ?_
 refine zf ?_
 exact s_rn (fu, (g10 + 1), g11, g12) ⟨by first | omega | (dsimp only; omega), F8⟩
 refine zi (zd (zb (za ?_)))
 refine s_as ?_
 refine zf (zd ?_)
 refine zbt (α := Nat × Bool) [11, 60, 61, 62, 63, 64, 65, 66, 67, 68, 69, 70, 71, 72, 73, 74] [] [] (fun a => [(11, .t (.sc (.bool a.2)))]) (fun a => []) (fun a => a.1 ≤ fu ∧ zcd a.1 x1 x2 g10 g11 g12 a.2 = some r) ?_ ?_
 refine za ?_
 refine s_mv ?_
 refine zO (zaA C14 B15 (zfs V16).1) ?_
 refine s_fa zH ?_
 refine zu yA24 ?_
 refine zE yU24 ?_
 refine s_lt ?_
 refine s_mv ?_
 refine zo _ 66 F8 ?_ ?_ <;> intro C19 F9
 refine s_fa zH ?_
 refine zu yA24 ?_
 refine s_mv ?_
 refine zO (zaA C14 B15 (zfs V16).1) ?_
 obtain ⟨v20, V20, F10⟩ := zc F9
 refine zN Form.row V20 (Form.row_eq _) yE24 ?_
 refine zaq yA32 yS32 ?_
 obtain ⟨v21, V21, F11⟩ := zc F10
 refine zv [] (zaF fu _ _ V21) ?_
 refine zA ?_
 refine s_as ?_
 refine zf ?_
 exact s_jn (fu, v21) ⟨by first | omega | (dsimp only; omega), F11⟩
 iterate 7 refine r_no rfl ?_
 refine zB ?_
 refine s_as ?_
 refine zf ?_
 exact s_jn (fu, false) ⟨by first | omega | (dsimp only; omega), F9⟩
 clear F8
 rintro ⟨fu, g22⟩ ⟨hl23, F9⟩
 dsimp only at hl23 F9 ⊢
 obtain _ | fu := fu
 · rw [zcd] at F9; cases F9
 rw [zcd] at F9
 refine zbt (α := Nat × Int) [10, 75, 76, 77, 78, 79, 80, 81, 82] [] [] (fun a => [(10, .t (.sc (.int .i64 a.2)))]) (fun a => []) (fun a => a.1 ≤ fu ∧ zcc a.1 x1 x2 g10 g11 g12 g22 a.2 = some r) ?_ ?_
 refine zb (za ?_)
 refine s_mv ?_
 refine zf (zd ?_)
 refine zm F9 ?_ ?_ <;> intro C24 F10
 refine za ?_
 refine s_fa zH ?_
 refine zu yA24 ?_
 refine s_mv ?_
 obtain ⟨v25, V25, F11⟩ := zc F10
 refine zN Form.row V25 (Form.row_eq _) yE24 ?_
 refine zaq yA32 yS32 ?_
 refine s_mv ?_
 obtain ⟨v26, V26, F12⟩ := zc F11
 refine zv [] (m_spec_l5Count_ok fu _ _ _ V26) ?_
 refine s_as ?_
 refine zf ?_
 exact s_jn (fu, v26) ⟨by first | omega | (dsimp only; omega), F12⟩
 refine zi ?_
 exact s_jn (fu, 1) ⟨by first | omega | (dsimp only; omega), F10⟩
 clear F9
 rintro ⟨fu, g27⟩ ⟨hl28, F10⟩
 dsimp only at hl28 F10 ⊢
 obtain _ | fu := fu
 · rw [zcc] at F10; cases F10
 rw [zcc] at F10
 refine zb (zb (za ?_))
 refine s_mv ?_
 refine s_lt ?_
 refine zf (zd ?_)
 refine zm F10 ?_ ?_ <;> intro C29 F11
 refine zb (za ?_)
 refine zK yA32 yS32 ?_
 refine zac yS32 ?_
 refine s_as ?_
 refine zf (zd (zh (zg (zj (zg (zx (zj (zg (zn ?_)))))))))
 cases F11
 exact zI [] [] (by rw [Tryz.results46]; exact (z8 (by conv => lhs; whnf) (by conv => lhs; whnf) yA32 yS32 rfl (zae (by conv => lhs; whnf) zR)))
 refine zi (zd (zb (za ?_)))
 refine s_as ?_
 refine zf (zd (zk ?_))
 refine awp_mvB 7 5040 5100 [.t (.sc (.int .i64 x1.kind)), .t (.sc (.str x1.name)), .t (.sc (.int .i64 x1.n)), .ar 45, .ar 5100] ?_
 refine zap [5, 8, 12, 13, 14, 15, 86, 87, 88, 89, 90, 91, 92, 93, 94, 95, 96, 97, 98, 99, 100, 101, 102, 103, 104, 105, 106, 107, 108, 109, 110, 111, 112, 113, 114, 115, 116, 117, 118, 119, 120, 121, 122, 123, 124, 125, 126, 127] [7, 5100] [14, 125, 126] [5100] (fun a : Nat × Int × Int × (List Form) => a.1) (fun a : Nat × Int × Int × (List Form) => [(5, .t (.sc (.bool false))), (8, .t (.sc (.int .i64 a.2.1))), (12, .t (.sc (.int .i64 a.2.2.1)))]) (fun a : Nat × Int × Int × (List Form) => [(7, .box [.t (.sc (.int .i64 x1.kind)), .t (.sc (.str x1.name)), .t (.sc (.int .i64 x1.n)), .ar 45, .ar 5100]), (5100, .arr (a.2.2.2.map Form.row) 32 true)]) (fun a : Nat × Int × Int × (List Form) => a.1 ≤ fu ∧ zca a.1 x1 x2 g10 g22 g27 a.2.1 a.2.2.1 a.2.2.2 = some r) (fu, g11, 0, g12) ⟨Nat.le_refl _, F11⟩ (by rfl) (by rfl) (fun _ => rfl) (zG (by conv => lhs; whnf) (by rfl) (zG (by conv => lhs; whnf) (by rfl) (zG (by conv => lhs; whnf) (by rfl) za2))) (zT (by conv => lhs; whnf) (by rfl) (zT (by conv => lhs; whnf) (by rfl) zaS)) (zbV hC rfl) (by repeat (first | exact zad rfl | refine zan rfl ?_ | refine zW rfl ?_)) (by repeat (first | exact zaD | exact zai rfl | refine zao rfl ?_ | refine zX rfl ?_)) ?_
 clear F11
 rintro ⟨fu, g30, g31, g32⟩ ⟨hl33, F12⟩
 dsimp only at hl33 F12 ⊢
 obtain _ | fu := fu
 · rw [zca] at F12; cases F12
 rw [zca] at F12
 refine zb (zb (za ?_))
 refine s_mv ?_
 refine s_mv ?_
 refine s_lt ?_
 refine zf (zd ?_)
 refine zm F12 ?_ ?_ <;> intro C34 F13
 refine zi (zd (zb (zk (zb (za ?_)))))
 refine s_mv ?_
 refine s_as ?_
 refine zf (zd ?_)
 refine zbt (α := Nat × (List Hit)) [13, 92, 93, 94, 95, 96, 97, 98, 99, 100] [] [] (fun a => [(13, .t (.sl (a.2.map Hit.row)))]) (fun a => []) (fun a => a.1 ≤ fu ∧ zcP a.1 x1 x2 g10 g22 g27 g30 g31 g32 a.2 = some r) ?_ ?_
 refine zb (za ?_)
 refine s_mv ?_
 refine zf (zd ?_)
 refine zm F13 ?_ ?_ <;> intro C35 F14
 refine za ?_
 refine s_fa zH ?_
 refine zu yA24 ?_
 refine s_mv ?_
 obtain ⟨v36, V36, F15⟩ := zc F14
 refine zN Form.row V36 (Form.row_eq _) yE24 ?_
 refine zaq yA32 yS32 ?_
 refine s_mv ?_
 refine s_mv ?_
 obtain ⟨v37, V37, F16⟩ := zc F15
 refine zv [] (m_spec_l5Nth_ok fu _ _ _ _ V37) ?_
 refine s_as ?_
 refine zf ?_
 exact s_jn (fu, v37) ⟨by first | omega | (dsimp only; omega), F16⟩
 refine zi ?_
 exact s_jn (fu, x2) ⟨by first | omega | (dsimp only; omega), F14⟩
 clear F13
 rintro ⟨fu, g38⟩ ⟨hl39, F14⟩
 dsimp only at hl39 F14 ⊢
 obtain _ | fu := fu
 · rw [zcP] at F14; cases F14
 rw [zcP] at F14
 refine zb (za ?_)
 refine s_fa zH ?_
 refine zu yA24 ?_
 refine s_mv ?_
 obtain ⟨v40, V40, F15⟩ := zc F14
 refine zN Form.row V40 (Form.row_eq _) yE24 ?_
 refine zaq yA32 yS32 ?_
 refine s_mv ?_
 obtain ⟨v41, V41, F16⟩ := zc F15
 refine zv [] (ih_m_spec_l5Fill fu (by omega) _ _ _ V41) ?_
 refine s_mv ?_
 refine zcp ?_
 refine zcp ?_
 refine z6 yZ32 ?_
 refine zac yS32 ?_
 refine s_as ?_
 refine zf (zd (zb (za ?_)))
 refine s_mv ?_
 refine zK yA32 yS32 ?_
 obtain ⟨v42, V42, F17⟩ := zc F16
 refine zv [] (zg8 fu _ _ V42) ?_
 refine zO rfl ?_
 refine s_as ?_
 refine zf (zd (zb ?_))
 refine zbt (α := Nat × Bool) [115, 116, 117, 118, 119, 120] [] [] (fun a => [(120, .t (.sc (.bool a.2)))]) (fun a => []) (fun a => a.1 ≤ fu ∧ zcb a.1 x1 x2 g10 g22 g27 g30 g31 g32 v41 v42 a.2 = some r) ?_ ?_
 refine za ?_
 refine s_mv ?_
 refine zby ?_
 refine s_mv ?_
 refine zo _ 117 F17 ?_ ?_ <;> intro C43 F18
 refine r_no rfl (r_no rfl ?_)
 refine zA ?_
 refine zf ?_
 exact s_jn (fu, true) ⟨by first | omega | (dsimp only; omega), F18⟩
 refine s_mv ?_
 refine s_gt ?_
 refine zB ?_
 refine zf ?_
 exact s_jn (fu, (decide (400 < (w64 (g30 + v42))))) ⟨by first | omega | (dsimp only; omega), F18⟩
 clear F17
 rintro ⟨fu, g44⟩ ⟨hl45, F18⟩
 dsimp only at hl45 F18 ⊢
 obtain _ | fu := fu
 · rw [zcb] at F18; cases F18
 rw [zcb] at F18
 refine zm F18 ?_ ?_ <;> intro C46 F19
 refine zb (za ?_)
 refine zK yA32 yS32 ?_
 refine zac yS32 ?_
 refine s_as ?_
 refine zf (zd (zh (zg (zj (zg (zx (zj (zj (zg (zx (zj (zg (zn ?_)))))))))))))
 cases F19
 exact zI [] [] (by rw [Tryz.results46]; exact (z8 (by conv => lhs; whnf) (by conv => lhs; whnf) yA32 yS32 rfl (zae (by conv => lhs; whnf) zR)))
 refine zi (zd (za ?_))
 refine s_fa zH ?_
 refine zu yA24 ?_
 refine zK yA32 yS32 ?_
 refine s_bs Form.row [v41.1] yP24 yR32 ?_
 obtain ⟨hk47, F20⟩ := zah F19
 refine zdT Form.row (fun y => Form.row_len y) hk47 yP24 ?_
 refine s_fa zH ?_
 refine zgJ yS24 ?_
 refine zf (z5 (zd (za ?_)))
 refine s_mv ?_
 refine zO rfl ?_
 refine s_as ?_
 refine zf ?_
 exact s_rn (fu, (w64 (g30 + v42)), (w64 (g31 + 1)), (g32 ++ [v41.1])) ⟨by first | omega | (dsimp only; omega), F20⟩ [(5100, 126)]
 refine zz (zq (zp (zr (z5 (zd (za ?_))))))
 refine s_mv ?_
 refine zO rfl ?_
 refine s_as ?_
 refine zf ?_
 exact s_rn (fu, (w64 (g10 + 1)), g30, g32) ⟨by first | omega | (dsimp only; omega), F13⟩ [(5040, 5100)]
 refine zz (zq (zp (zr (zd (zb (za ?_))))))
 refine zK yA32 yS32 ?_
 refine zac yS32 ?_
 refine s_as ?_
 refine zf (zd (zh (zn ?_)))
 cases F5
 exact zI [] [45, 5040] (by rw [Tryz.results46]; exact (z8 (by conv => lhs; whnf) (by conv => lhs; whnf) yA32 yS32 rfl (zae (by conv => lhs; whnf) zR)))
end Go.Abs
