/- A part of the proof: what the functions that the law calls answer, as pure values. -/
import Derived.Test.YtjjjnhpghhamkaaGreatK867bbe4d6fe6
import Derived.Test.YtjjjnhpghhamkaaGreatKac1bd4e93480
import Derived.Test.YtjjjnhpghhamkaaGreatK7ac0b3551e5d
import Derived.Test.YtjjjnhpghhamkaaGreatKf78df5a3dadb
import Derived.Test.YtjjjnhpghhamkaaGreatK17049cea853b
import Derived.Test.YtjjjnhpghhamkaaGreatK21a228556bb7
import Derived.Test.YtjjjnhpghhamkaaGreatKba44e2044c52
import Derived.Test.YtjjjnhpghhamkaaGreatKffe405a2eb68
import Derived.Test.YtjjjnhpghhamkaaGreatK6965184f9e71
set_option linter.unusedSimpArgs false
set_option linter.unusedVariables false
set_option maxRecDepth 100000
set_option maxHeartbeats 4000000
namespace Go.Abs
open Go.Proofs
theorem m_spec_l4Match_st (fu : Nat) (ih_m_spec_l4List : ∀ k, k ≤ fu → zfk k) (ih_m_spec_l4Match : ∀ k, k ≤ fu → zdP k) : zdP (fu + 1) := by
 intro x1 x2 x3 x4 r F0
 rw [zb0] at F0
 refine AC_i [.t (.sl (r.1.map Hit.row)), .t (.sc (.bool r.2))] Tryz.func65 rfl Tryz.ntmps65 ?_
 intro C hC
 refine zb (za ?_)
 refine zbf ?_
 refine zbf ?_
 refine s_as ?_
 refine s_as ?_
 refine zf (zd (zb (za ?_)))
 refine s_bs Hit.row ([] : List Hit) yP30 yR40 ?_
 refine s_as ?_
 refine zf (zd (zb (zb (za ?_))))
 refine s_fa zc2 ?_
 refine zu yA3 ?_
 refine s_eq ?_
 refine zf (zd ?_)
 refine zm F0 ?_ ?_ <;> intro C1 F1
 refine zb (zb (za ?_))
 refine s_fa zdn ?_
 refine zu yA9 ?_
 refine zg6 ?_
 refine zf (zd ?_)
 refine zm F1 ?_ ?_ <;> intro C2 F2
 refine zb (za ?_)
 refine s_mv ?_
 refine s_as ?_
 refine s_as ?_
 refine zf (zd (zh (zg (zg (zn ?_)))))
 cases F2
 exact zl [] [11] Tryz.results65
 refine zi (zd (zb (zb (za ?_))))
 refine s_mv ?_
 refine zI yA27 yS27 ?_
 obtain ⟨v3, V3, F3⟩ := zc F2
 refine zv [] (zgc fu _ _ _ V3) ?_
 refine zf (zd ?_)
 refine zm F3 ?_ ?_ <;> intro C4 F4
 refine zbk (α := Nat × Bool) [8, 9, 22, 23, 24, 25, 26, 27, 28, 29, 30, 31] [] [] (fun a => [(8, .ar 11), (9, .t (.sc (.bool a.2)))]) (fun a => []) (fun a => a.1 ≤ fu ∧ zcv a.1  a.2 = some r) ?_ ?_
 refine za ?_
 refine s_mv ?_
 refine s_fa zc2 ?_
 refine zu yA3 ?_
 refine s_eq ?_
 refine s_mv ?_
 refine zo _ 26 F4 ?_ ?_ <;> intro C5 F5
 refine s_mv ?_
 refine zI yA27 yS27 ?_
 refine zI yA27 yS27 ?_
 obtain ⟨v6, V6, F6⟩ := zc F5
 refine zv [] (m_spec_l3Same_ok fu _ _ _ _ V6) ?_
 refine zA ?_
 refine s_as ?_
 refine s_as ?_
 refine zf ?_
 exact s_jn (fu, v6) ⟨by first | omega | (dsimp only; omega), F6⟩
 iterate 4 refine r_no rfl ?_
 refine zB ?_
 refine s_as ?_
 refine s_as ?_
 refine zf ?_
 exact s_jn (fu, false) ⟨by first | omega | (dsimp only; omega), F5⟩
 clear F4
 rintro ⟨fu, g7⟩ ⟨hl8, F5⟩
 dsimp only at hl8 F5 ⊢
 obtain _ | fu := fu
 · rw [zcv] at F5; cases F5
 rw [zcv] at F5
 refine zh (zg (zg (zn ?_)))
 cases F5
 exact zl [] [11] Tryz.results65
 refine zi (zd (zb (za ?_)))
 refine s_mv ?_
 refine zI yA27 yS27 ?_
 refine zI yA27 yS27 ?_
 refine zeH yZ40 yL40 ?_
 refine s_bs Hit.row [(Hit.mk x2 0 x4 ([] : List Hit))] yP30 yR40 ?_
 obtain ⟨hk9, F5⟩ := zah F4
 refine zdX Hit.row (fun y => Hit.row_len y) hk9 yP30 ?_
 refine s_as ?_
 refine s_as ?_
 refine zf (zd (zh (zg (zn ?_))))
 cases F5
 exact zl [] [37] Tryz.results65
 refine zi (zd (zb (zb (za ?_))))
 refine s_fa zc2 ?_
 refine zu yA3 ?_
 refine s_eq ?_
 refine zf (zd ?_)
 refine zm F1 ?_ ?_ <;> intro C10 F2
 refine zb (za ?_)
 refine s_mv ?_
 refine zI yA27 yS27 ?_
 refine zI yA27 yS27 ?_
 obtain ⟨v11, V11, F3⟩ := zc F2
 refine zv [] (zb3 fu _ _ _ V11) ?_
 refine s_as ?_
 refine s_as ?_
 refine zf (zd (zh (zg (zn ?_))))
 cases F3
 exact zl [] [11] Tryz.results65
 refine zi (zd (zb (zb (za ?_))))
 refine s_fa zc2 ?_
 refine zu yA3 ?_
 refine s_ne ?_
 refine zf (zd ?_)
 refine zm F2 ?_ ?_ <;> intro C12 F3
 refine zb (za ?_)
 refine s_mv ?_
 refine s_as ?_
 refine s_as ?_
 refine zf (zd (zh (zg (zn ?_))))
 cases F3
 exact zl [] [11] Tryz.results65
 refine zi (zd (zb (za ?_)))
 refine s_mv ?_
 refine s_fa zH ?_
 refine zu yA25 ?_
 refine s_mv ?_
 refine s_fa zH ?_
 refine zu yA25 ?_
 obtain ⟨v13, V13, F4⟩ := zc F3
 refine zv [] (ih_m_spec_l4List fu (by omega) _ _ _ _ _ V13) ?_
 refine zct ?_
 refine zct ?_
 refine s_as ?_
 refine s_as ?_
 refine zf (zd (zh (zn ?_)))
 cases F4
 exact zl [] [] Tryz.results65
theorem m_spec_l4List_all (fuel : Nat) : zfk fuel ∧ zdP fuel := by
 induction fuel using Nat.strongRecOn with
 | _ N ih =>
   cases N with
   | zero => exact ⟨(by intro x1 x2 x3 x4 r h; rw [zeW] at h; cases h), (by intro x1 x2 x3 x4 r h; rw [zb0] at h; cases h)⟩
   | succ fu => exact ⟨m_spec_l4List_st fu (fun k hk => (ih k (by omega)).1) (fun k hk => (ih k (by omega)).2), m_spec_l4Match_st fu (fun k hk => (ih k (by omega)).1) (fun k hk => (ih k (by omega)).2)⟩
theorem zha (fuel : Nat) : zdP fuel := (m_spec_l4List_all fuel).2
def zd1 (fuel : Nat) : Prop := ∀ (x1 : Hit) (r : Hit), zbP fuel x1 = some r → AC Tryz.prog 138 [.ag [.t (.sc (.int .i64 x1.name.kind)), .t (.sc (.str x1.name.name)), .t (.sc (.int .i64 x1.name.n)), .t (.sl (x1.name.scopes.map rI)), .t (.sl (x1.name.kids.map Form.row)), .t (.sc (.int .i64 x1.depth)), .t (.sc (.int .i64 x1.one.kind)), .t (.sc (.str x1.one.name)), .t (.sc (.int .i64 x1.one.n)), .t (.sl (x1.one.scopes.map rI)), .t (.sl (x1.one.kids.map Form.row)), .t (.sl (x1.many.map Hit.row))]] noOb (.ag [.t (.sc (.int .i64 r.name.kind)), .t (.sc (.str r.name.name)), .t (.sc (.int .i64 r.name.n)), .t (.sl (r.name.scopes.map rI)), .t (.sl (r.name.kids.map Form.row)), .t (.sc (.int .i64 r.depth)), .t (.sc (.int .i64 r.one.kind)), .t (.sc (.str r.one.name)), .t (.sc (.int .i64 r.one.n)), .t (.sl (r.one.scopes.map rI)), .t (.sl (r.one.kids.map Form.row)), .t (.sl (r.many.map Hit.row))]) noOb
theorem m_spec_l4CopyHit_st (fu : Nat) (ih_m_spec_l4CopyHit : ∀ k, k ≤ fu → zd1 k) : zd1 (fu + 1) := by
 intro x1 r F0
 rw [zbP] at F0
 refine AC_i [.ag [.t (.sc (.int .i64 r.name.kind)), .t (.sc (.str r.name.name)), .t (.sc (.int .i64 r.name.n)), .t (.sl (r.name.scopes.map rI)), .t (.sl (r.name.kids.map Form.row)), .t (.sc (.int .i64 r.depth)), .t (.sc (.int .i64 r.one.kind)), .t (.sc (.str r.one.name)), .t (.sc (.int .i64 r.one.n)), .t (.sl (r.one.scopes.map rI)), .t (.sl (r.one.kids.map Form.row)), .t (.sl (r.many.map Hit.row))]] Tryz.func138 rfl Tryz.ntmps138 ?_
 intro C hC
 refine zb (za ?_)
 refine zbf ?_
 refine z6 yZ40 ?_
 refine zf (zd (zb ?_))
 refine zW yMix (by kernel_rfl) ?_
 refine s_fa ze4 ?_
 refine zan yA27 yS27 ?_
 obtain ⟨v1, V1, F1⟩ := zc F0
 refine z5 [(9203, 2007), (9204, 12007)] [] _ _ (zbQ fu _ _ V1) ?_
 refine s_fa zf0 ?_
 refine zu yA3 ?_
 refine s_fa yF40_2 ?_
 refine zan yA27 yS27 ?_
 obtain ⟨v2, V2, F2⟩ := zc F1
 refine z5 [(9203, 2012), (9204, 12012)] [] _ _ (zbQ fu _ _ V2) ?_
 refine zeH yZ40 yL40 ?_
 refine z6 yZ40 ?_
 refine zac yS40 ?_
 refine zak (by kernel_rfl) ?_
 refine zd (zb (zb (za ?_)))
 refine s_as ?_
 refine zf (zd (zk ?_))
 refine zgZ 3 5020 40 [.t (.sc (.int .i64 v1.kind)), .t (.sc (.str v1.name)), .t (.sc (.int .i64 v1.n)), .ar 2007, .ar 12007, .t (.sc (.int .i64 x1.depth)), .t (.sc (.int .i64 v2.kind)), .t (.sc (.str v2.name)), .t (.sc (.int .i64 v2.n)), .ar 2012, .ar 12012, .ar 5020] yI40.choose_spec ?_
 refine zao [4, 14, 15, 16, 17, 18, 19, 20, 21, 22, 23, 24, 25, 26, 27, 28, 29, 30, 31] [3, 5020] [29, 30] [5020] (fun a : Nat × Int × (List Hit) => a.1) (fun a : Nat × Int × (List Hit) => [(4, .t (.sc (.int .i64 a.2.1)))]) (fun a : Nat × Int × (List Hit) => [(3, .box [.t (.sc (.int .i64 v1.kind)), .t (.sc (.str v1.name)), .t (.sc (.int .i64 v1.n)), .ar 2007, .ar 12007, .t (.sc (.int .i64 x1.depth)), .t (.sc (.int .i64 v2.kind)), .t (.sc (.str v2.name)), .t (.sc (.int .i64 v2.n)), .ar 2012, .ar 12012, .ar 5020]), (5020, .arr (a.2.2.map Hit.row) 40 true)]) (fun a : Nat × Int × (List Hit) => a.1 ≤ fu ∧ zbS a.1 x1 v1 v2 a.2.1 a.2.2 = some r ∧ 0 ≤ a.2.1) (fu, 0, ([] : List Hit)) ⟨Nat.le_refl _, F2, by simp⟩ (by rfl) (by rfl) (fun _ => rfl) (zG (by conv => lhs; whnf) (by rfl) za3) (zV (by conv => lhs; whnf) (by rfl) (zV (by conv => lhs; whnf) (by rfl) zaU)) (zb8 hC rfl) (by repeat (first | exact zag rfl | refine zau rfl ?_ | refine zZ rfl ?_)) (by repeat (first | exact zaI | exact zal rfl | refine zav rfl ?_ | refine z4 rfl ?_)) ?_
 clear F2
 rintro ⟨fu, g3, g4⟩ ⟨hl5, F3, hn_g3⟩
 dsimp only at hl5 F3 hn_g3 ⊢
 obtain _ | fu := fu
 · rw [zbS] at F3; cases F3
 rw [zbS] at F3
 refine zb (zb (za ?_))
 refine s_mv ?_
 refine s_fa zfA ?_
 refine zu yA30 ?_
 refine zE yU30 ?_
 refine s_lt ?_
 refine zf (zd ?_)
 refine zm F3 ?_ ?_ <;> intro C6 F4
 refine zT 16 (fun B7 => ?_)
 refine zi (zd (zb (zk ?_)))
 refine zW yMix (by kernel_rfl) ?_
 refine s_fa zfA ?_
 refine zu yA30 ?_
 refine s_fa zfA ?_
 refine zu yA30 ?_
 refine s_mv ?_
 obtain ⟨v8, V8, F5⟩ := zc F4
 refine zM Hit.row V8 (Hit.row_eq _) yE30 ?_
 refine zan yA40 yS40 ?_
 obtain ⟨v9, V9, F6⟩ := zc F5
 refine zv [] (ih_m_spec_l4CopyHit fu (by omega) _ _ V9) ?_
 refine s_bs Hit.row [v9] yP30 yR40 ?_
 obtain ⟨hk10, F7⟩ := zah F6
 refine zdX Hit.row (fun y => Hit.row_len y) hk10 yP30 ?_
 refine s_fa zfA ?_
 refine zgK yS30 ?_
 refine zak (by kernel_rfl) ?_
 refine zX (zd (za ?_))
 refine s_mv ?_
 refine zN (zaz C6 B7 hn_g3) ?_
 refine s_as ?_
 refine zf ?_
 exact s_rn (fu, (g3 + 1), (g4 ++ [v9])) ⟨by first | omega | (dsimp only; omega), F7, by first | omega | (dsimp only; omega)⟩ [(5020, 30)]
 refine zz (zq (zp (zr (zd (zb (za ?_))))))
 refine zI yA40 yS40 ?_
 refine zac yS40 ?_
 refine zf (zd (zh (zn ?_)))
 cases F4
 exact zJ [] [2007, 12007, 2012, 12012, 5020] (by rw [Tryz.results138]; exact (z8 (by conv => lhs; whnf) (by conv => lhs; whnf) yA40 yS40 rfl zU))
theorem m_spec_l4CopyHit_all (fuel : Nat) : zd1 fuel := by
 induction fuel using Nat.strongRecOn with
 | _ N ih =>
   cases N with
   | zero => exact (by intro x1 r h; rw [zbP] at h; cases h)
   | succ fu => exact m_spec_l4CopyHit_st fu (fun k hk => (ih k (by omega)))
theorem m_spec_l4CopyHit_ok (fuel : Nat) : zd1 fuel := (m_spec_l4CopyHit_all fuel)
def m_spec_l4Copy_AC (fuel : Nat) : Prop := ∀ (x1 : (List Hit)) (r : (List Hit)), zfN fuel x1 = some r → AC Tryz.prog 66 [.t (.sl (x1.map Hit.row))] (objs []) (.ar 9200) (objs [(9200, .arr (r.map Hit.row) 40 true)])
theorem m_spec_l4Copy_ok (fuel : Nat) : m_spec_l4Copy_AC fuel := by
 intro x1 r F0
 unfold zfN at F0
 refine AC_i [.ar 9200] Tryz.func66 rfl Tryz.ntmps66 ?_
 intro C hC
 refine zb (za ?_)
 refine s_as ?_
 refine zf (zd (zb (za ?_)))
 refine s_bs Hit.row ([] : List Hit) yP30 yR40 ?_
 refine s_as ?_
 refine zf (zd (zb (zb (za ?_))))
 refine s_as ?_
 refine zf (zd (zk ?_))
 refine zdG 3 5 5020 (by conv => lhs; whnf) (by conv => lhs; whnf) rfl ?_
 refine zao [3, 4, 6, 7, 8, 9, 10, 11, 12, 13, 14, 15, 16, 17, 18, 19] [5020] [18, 19] [5020] (fun a : Nat × (List Hit) × Int => a.1) (fun a : Nat × (List Hit) × Int => [(3, .ar 5020), (4, .t (.sc (.int .i64 a.2.2)))]) (fun a : Nat × (List Hit) × Int => [(5020, .arr (a.2.1.map Hit.row) 40 true)]) (fun a : Nat × (List Hit) × Int => a.1 ≤ fuel ∧ zcR a.1 x1 a.2.1 a.2.2 = some r ∧ 0 ≤ a.2.2) (fuel, ([] : List Hit), 0) ⟨Nat.le_refl _, F0, by simp⟩ (by rfl) (by rfl) (fun _ => rfl) (zG (by conv => lhs; whnf) (by rfl) (zG (by conv => lhs; whnf) (by rfl) za3)) (zV (by conv => lhs; whnf) (by rfl) zaU) (zb8 hC rfl) (by repeat (first | exact zag rfl | refine zau rfl ?_ | refine zZ rfl ?_)) (by repeat (first | exact zaI | exact zal rfl | refine zav rfl ?_ | refine z4 rfl ?_)) ?_
 clear F0
 rintro ⟨fu, g1, g2⟩ ⟨hl3, F1, hn_g2⟩
 dsimp only at hl3 F1 hn_g2 ⊢
 obtain _ | fu := fu
 · rw [zcR] at F1; cases F1
 rw [zcR] at F1
 refine zb (zb (za ?_))
 refine s_mv ?_
 refine s_mv ?_
 refine zE yU30 ?_
 refine s_lt ?_
 refine zf (zd ?_)
 refine zm F1 ?_ ?_ <;> intro C4 F2
 refine zT 0 (fun B5 => ?_)
 refine zi (zd (zb (zk (za ?_))))
 iterate 3 refine s_mv ?_
 obtain ⟨v6, V6, F3⟩ := zc F2
 refine zM Hit.row V6 (Hit.row_eq _) yE30 ?_
 refine zan yA40 yS40 ?_
 obtain ⟨v7, V7, F4⟩ := zc F3
 refine zv [] (m_spec_l4CopyHit_ok fu _ _ V7) ?_
 refine s_bs Hit.row [v7] yP30 yR40 ?_
 obtain ⟨hk8, F5⟩ := zah F4
 refine zdX Hit.row (fun y => Hit.row_len y) hk8 yP30 ?_
 refine s_as ?_
 refine zf (zX (zd (za ?_)))
 refine s_mv ?_
 refine zN (zaz C4 B5 hn_g2) ?_
 refine s_as ?_
 refine zf ?_
 exact s_rn (fu, (g1 ++ [v7]), (g2 + 1)) ⟨by first | omega | (dsimp only; omega), F5, by first | omega | (dsimp only; omega)⟩ [(5020, 19)]
 refine zz (zq (zp (zr (zd (zb (za ?_))))))
 refine s_mv ?_
 refine s_as ?_
 refine zf (zd ?_)
 refine zdG 2 5020 9200 (by conv => lhs; whnf) (by conv => lhs; whnf) rfl ?_
 refine zh (zn ?_)
 cases F2
 exact zl _ [] Tryz.results66
def m_spec_MatchPattern_AC (fuel : Nat) : Prop := ∀ (x1 : (List Bind)) (x2 : Form) (x3 : (List Form)) (x4 : Form) (r : ((List Hit) × Bool)), zdg fuel x1 x2 x3 x4 = some r → AC Tryz.prog 15 [.t (.sl (x1.map Bind.row)), .ag [.t (.sc (.int .i64 x2.kind)), .t (.sc (.str x2.name)), .t (.sc (.int .i64 x2.n)), .t (.sl (x2.scopes.map rI)), .t (.sl (x2.kids.map Form.row))], .t (.sl (x3.map Form.row)), .ag [.t (.sc (.int .i64 x4.kind)), .t (.sc (.str x4.name)), .t (.sc (.int .i64 x4.n)), .t (.sl (x4.scopes.map rI)), .t (.sl (x4.kids.map Form.row))]] (objs []) (.tp [.ar 9200, .t (.sc (.bool r.2))]) (objs [(9200, .arr (r.1.map Hit.row) 40 true)])
theorem m_spec_MatchPattern_ok (fuel : Nat) : m_spec_MatchPattern_AC fuel := by
 intro x1 x2 x3 x4 r F0
 unfold zdg at F0
 refine AC_i [.ar 9200, .t (.sc (.bool r.2))] Tryz.func15 rfl Tryz.ntmps15 ?_
 intro C hC
 refine zb (za ?_)
 refine zbf ?_
 refine zbf ?_
 refine s_as ?_
 refine s_as ?_
 refine zf (zd (zb ?_))
 refine zbk (α := Nat × Bool) [12, 13, 14, 15, 16, 17, 18, 19, 20, 21, 22, 23, 24, 25] [] [] (fun a => [(25, .t (.sc (.bool a.2)))]) (fun a => []) (fun a => a.1 ≤ fuel ∧ zaC a.1 x1 x2 x3 x4 a.2 = some r) ?_ ?_
 refine za ?_
 refine s_mv ?_
 obtain ⟨v1, V1, F1⟩ := zc F0
 refine zv [] (zgt fuel _ _ V1) ?_
 refine zbB ?_
 refine s_mv ?_
 refine zo _ 15 F1 ?_ ?_ <;> intro C2 F2
 iterate 4 refine r_no rfl ?_
 refine zA ?_
 refine s_mv ?_
 iterate 3 refine r_no rfl ?_
 refine zA ?_
 refine zf ?_
 exact s_jn (fuel, true) ⟨by first | omega | (dsimp only; omega), F2⟩
 refine zI yA27 yS27 ?_
 refine s_mv ?_
 obtain ⟨v3, V3, F3⟩ := zc F2
 refine zv [] (m_spec_l4Is_ok fuel _ _ _ V3) ?_
 refine zbB ?_
 refine zB ?_
 refine s_mv ?_
 refine zo _ 21 F3 ?_ ?_ <;> intro C4 F4
 iterate 3 refine r_no rfl ?_
 refine zA ?_
 refine zf ?_
 exact s_jn (fuel, true) ⟨by first | omega | (dsimp only; omega), F4⟩
 refine zI yA27 yS27 ?_
 obtain ⟨v5, V5, F5⟩ := zc F4
 refine zv [] (zaK fuel _ _ V5) ?_
 refine zbB ?_
 refine zB ?_
 refine zf ?_
 exact s_jn (fuel, (!v5)) ⟨by first | omega | (dsimp only; omega), F5⟩
 clear F0
 rintro ⟨fu, g6⟩ ⟨hl7, F1⟩
 dsimp only at hl7 F1 ⊢
 obtain _ | fu := fu
 · rw [zaC] at F1; cases F1
 rw [zaC] at F1
 refine zm F1 ?_ ?_ <;> intro C8 F2
 refine zb (za ?_)
 refine s_bs Hit.row ([] : List Hit) yP30 yR40 ?_
 refine s_as ?_
 refine s_as ?_
 refine zf (zd ?_)
 refine zdG 8 26 9200 (by conv => lhs; whnf) (by conv => lhs; whnf) rfl ?_
 refine zh (zg (zn ?_))
 cases F2
 exact zl _ [] Tryz.results15
 refine zi (zd (zb (za ?_)))
 refine s_mv ?_
 refine zI yA27 yS27 ?_
 refine s_mv ?_
 refine zI yA27 yS27 ?_
 obtain ⟨v9, V9, F3⟩ := zc F2
 refine zv [] (zha fu _ _ _ _ _ V9) ?_
 refine s_mv ?_
 refine zct ?_
 refine zct ?_
 refine s_as ?_
 refine s_as ?_
 refine zf (zd (zb (zb (za ?_))))
 refine s_mv ?_
 refine zbB ?_
 refine zf (zd ?_)
 refine zm F3 ?_ ?_ <;> intro C10 F4
 refine zb (za ?_)
 refine s_bs Hit.row ([] : List Hit) yP30 yR40 ?_
 refine s_as ?_
 refine s_as ?_
 refine zf (zd ?_)
 refine zdG 8 37 9200 (by conv => lhs; whnf) (by conv => lhs; whnf) rfl ?_
 refine zh (zg (zn ?_))
 cases F4
 exact zl _ [] Tryz.results15
 refine zi (zd (zb (za ?_)))
 refine s_mv ?_
 obtain ⟨v11, V11, F5⟩ := zc F4
 refine z5 [(9200, 2039)] [] _ _ (m_spec_l4Copy_ok fu _ _ V11) ?_
 refine s_as ?_
 refine s_as ?_
 refine zf (zd ?_)
 refine zdG 8 2039 9200 (by conv => lhs; whnf) (by conv => lhs; whnf) rfl ?_
 refine zh (zn ?_)
 cases F5
 exact zl _ [] Tryz.results15
def zeF (fuel : Nat) : Prop := ∀ (x1 : Form) (r : Int), zcL fuel x1 = some r → AC Tryz.prog 23 [.ag [.t (.sc (.int .i64 x1.kind)), .t (.sc (.str x1.name)), .t (.sc (.int .i64 x1.n)), .t (.sl (x1.scopes.map rI)), .t (.sl (x1.kids.map Form.row))]] noOb (.t (.sc (.int .i64 r))) noOb
theorem m_impl_FormSize_st (fu : Nat) (ih_m_impl_FormSize : ∀ k, k ≤ fu → zeF k) : zeF (fu + 1) := by
 intro x1 r F0
 rw [zcL] at F0
 refine AC_i [.t (.sc (.int .i64 r))] Tryz.func23 rfl Tryz.ntmps23 ?_
 intro C hC
 refine zb (za ?_)
 refine zbf ?_
 refine s_as ?_
 refine zf (zd (zb (za ?_)))
 refine s_as ?_
 refine zf (zd (zb (zb (za ?_))))
 refine s_fa zH ?_
 refine zu yA25 ?_
 refine zE yU25 ?_
 refine s_mv ?_
 refine zf (zd (zk ?_))
 refine za1 (β := Int × Int) [3, 5, 9, 10, 11, 12, 13, 14, 15, 16, 17] [] [5] (fun a => [(3, .t (.sc (.int .i64 a.2.1))), (9, .t (.sc (.int .i64 a.2.2)))]) (fun a => []) (fun a => a.1 ≤ fu ∧ zbG a.1 x1 a.2.1 a.2.2 = some r ∧ 0 ≤ a.2.2) (fu, 1, 0) ⟨Nat.le_refl _, F0, by simp⟩ ?_
 clear F0
 rintro ⟨fu, g1, g2⟩ ⟨hl3, F1, hn_g2⟩
 dsimp only at hl3 F1 hn_g2 ⊢
 obtain _ | fu := fu
 · rw [zbG] at F1; cases F1
 rw [zbG] at F1
 refine zb (za ?_)
 refine s_lt ?_
 refine zf (zd (zb ?_))
 refine zm F1 ?_ ?_ <;> intro C4 F2
 refine zT 7 (fun B5 => ?_)
 refine zi (zd (zb (zk (zb (za ?_)))))
 obtain ⟨v6, V6, F3⟩ := zc F2
 refine zM Form.row V6 (Form.row_eq _) yE25 ?_
 refine zan yA27 yS27 ?_
 refine z6 yZ27 ?_
 refine zac yS27 ?_
 refine zf (zd (za ?_))
 refine s_mv ?_
 refine zI yA27 yS27 ?_
 obtain ⟨v7, V7, F4⟩ := zc F3
 refine zv [] (ih_m_impl_FormSize fu (by omega) _ _ V7) ?_
 refine zN rfl ?_
 refine s_as ?_
 refine zf (zX (zd (za ?_)))
 refine zN (zaz C4 B5 hn_g2) ?_
 refine s_mv ?_
 refine zf ?_
 exact s_rn (fu, (w64 (g1 + v7)), (g2 + 1)) ⟨by first | omega | (dsimp only; omega), F4, by first | omega | (dsimp only; omega)⟩
 refine zz (zq (zp (zr (zd (zb (za ?_))))))
 refine s_mv ?_
 refine s_as ?_
 refine zf (zd (zh (zn ?_)))
 cases F2
 exact zl [] [] Tryz.results23
theorem m_impl_FormSize_all (fuel : Nat) : zeF fuel := by
 induction fuel using Nat.strongRecOn with
 | _ N ih =>
   cases N with
   | zero => exact (by intro x1 r h; rw [zcL] at h; cases h)
   | succ fu => exact m_impl_FormSize_st fu (fun k hk => (ih k (by omega)))
theorem m_impl_FormSize_ok (fuel : Nat) : zeF fuel := (m_impl_FormSize_all fuel)
def zdi (fuel : Nat) : Prop := ∀ (x1 : Hit) (r : Bool), zdW fuel x1 = some r → AC Tryz.prog 85 [.ag [.t (.sc (.int .i64 x1.name.kind)), .t (.sc (.str x1.name.name)), .t (.sc (.int .i64 x1.name.n)), .t (.sl (x1.name.scopes.map rI)), .t (.sl (x1.name.kids.map Form.row)), .t (.sc (.int .i64 x1.depth)), .t (.sc (.int .i64 x1.one.kind)), .t (.sc (.str x1.one.name)), .t (.sc (.int .i64 x1.one.n)), .t (.sl (x1.one.scopes.map rI)), .t (.sl (x1.one.kids.map Form.row)), .t (.sl (x1.many.map Hit.row))]] noOb (.t (.sc (.bool r))) noOb
def zdd (fuel : Nat) : Prop := ∀ (x1 : Hit) (o1 : Hit) (r : Bool), zdJ fuel x1 o1 = some r → AC Tryz.prog 148 [.ag [.t (.sc (.int .i64 x1.name.kind)), .t (.sc (.str x1.name.name)), .t (.sc (.int .i64 x1.name.n)), .t (.sl (x1.name.scopes.map rI)), .t (.sl (x1.name.kids.map Form.row)), .t (.sc (.int .i64 x1.depth)), .t (.sc (.int .i64 x1.one.kind)), .t (.sc (.str x1.one.name)), .t (.sc (.int .i64 x1.one.n)), .t (.sl (x1.one.scopes.map rI)), .t (.sl (x1.one.kids.map Form.row)), .t (.sl (x1.many.map Hit.row))], .rf 9000 0] (objs [(9000, .box [.t (.sc (.int .i64 o1.name.kind)), .t (.sc (.str o1.name.name)), .t (.sc (.int .i64 o1.name.n)), .t (.sl (o1.name.scopes.map rI)), .t (.sl (o1.name.kids.map Form.row)), .t (.sc (.int .i64 o1.depth)), .t (.sc (.int .i64 o1.one.kind)), .t (.sc (.str o1.one.name)), .t (.sc (.int .i64 o1.one.n)), .t (.sl (o1.one.scopes.map rI)), .t (.sl (o1.one.kids.map Form.row)), .t (.sl (o1.many.map Hit.row))])]) (.t (.sc (.bool r))) (objs [(9000, .box [.t (.sc (.int .i64 o1.name.kind)), .t (.sc (.str o1.name.name)), .t (.sc (.int .i64 o1.name.n)), .t (.sl (o1.name.scopes.map rI)), .t (.sl (o1.name.kids.map Form.row)), .t (.sc (.int .i64 o1.depth)), .t (.sc (.int .i64 o1.one.kind)), .t (.sc (.str o1.one.name)), .t (.sc (.int .i64 o1.one.n)), .t (.sl (o1.one.scopes.map rI)), .t (.sl (o1.one.kids.map Form.row)), .t (.sl (o1.many.map Hit.row))])])
def zai (fuel : Nat) : Prop := ∀ (x1 : (List Hit)) (o1 : Hit) (r : Bool), zaH fuel x1 o1 = some r → AC Tryz.prog 147 [.t (.sl (x1.map Hit.row)), .fn 148 [.rf 9000 0]] (objs [(9000, .box [.t (.sc (.int .i64 o1.name.kind)), .t (.sc (.str o1.name.name)), .t (.sc (.int .i64 o1.name.n)), .t (.sl (o1.name.scopes.map rI)), .t (.sl (o1.name.kids.map Form.row)), .t (.sc (.int .i64 o1.depth)), .t (.sc (.int .i64 o1.one.kind)), .t (.sc (.str o1.one.name)), .t (.sc (.int .i64 o1.one.n)), .t (.sl (o1.one.scopes.map rI)), .t (.sl (o1.one.kids.map Form.row)), .t (.sl (o1.many.map Hit.row))])]) (.t (.sc (.bool r))) (objs [(9000, .box [.t (.sc (.int .i64 o1.name.kind)), .t (.sc (.str o1.name.name)), .t (.sc (.int .i64 o1.name.n)), .t (.sl (o1.name.scopes.map rI)), .t (.sl (o1.name.kids.map Form.row)), .t (.sc (.int .i64 o1.depth)), .t (.sc (.int .i64 o1.one.kind)), .t (.sc (.str o1.one.name)), .t (.sc (.int .i64 o1.one.n)), .t (.sl (o1.one.scopes.map rI)), .t (.sl (o1.one.kids.map Form.row)), .t (.sl (o1.many.map Hit.row))])])
def zas (fuel : Nat) : Prop := ∀ (x1 : (List Hit)) (o1 : Hit) (r : Int), zaV fuel x1 o1 = some r → AC Tryz.prog 149 [.t (.sl (x1.map Hit.row)), .fn 148 [.rf 9000 0]] (objs [(9000, .box [.t (.sc (.int .i64 o1.name.kind)), .t (.sc (.str o1.name.name)), .t (.sc (.int .i64 o1.name.n)), .t (.sl (o1.name.scopes.map rI)), .t (.sl (o1.name.kids.map Form.row)), .t (.sc (.int .i64 o1.depth)), .t (.sc (.int .i64 o1.one.kind)), .t (.sc (.str o1.one.name)), .t (.sc (.int .i64 o1.one.n)), .t (.sl (o1.one.scopes.map rI)), .t (.sl (o1.one.kids.map Form.row)), .t (.sl (o1.many.map Hit.row))])]) (.t (.sc (.int .i64 r))) (objs [(9000, .box [.t (.sc (.int .i64 o1.name.kind)), .t (.sc (.str o1.name.name)), .t (.sc (.int .i64 o1.name.n)), .t (.sl (o1.name.scopes.map rI)), .t (.sl (o1.name.kids.map Form.row)), .t (.sc (.int .i64 o1.depth)), .t (.sc (.int .i64 o1.one.kind)), .t (.sc (.str o1.one.name)), .t (.sc (.int .i64 o1.one.n)), .t (.sl (o1.one.scopes.map rI)), .t (.sl (o1.one.kids.map Form.row)), .t (.sl (o1.many.map Hit.row))])])
theorem m_impl_hitOk_st (fu : Nat) (ih_m_impl_hitOk : ∀ k, k ≤ fu → zdi k) (ih_m_impl_hitOk_1 : ∀ k, k ≤ fu → zdd k) (ih_m_slices_ContainsFunc_Hit_hitOk_1 : ∀ k, k ≤ fu → zai k) (ih_m_slices_IndexFunc_Hit_hitOk_1 : ∀ k, k ≤ fu → zas k) : zdi (fu + 1) := by
 intro x1 r F0
 rw [zdW] at F0
 refine AC_i [.t (.sc (.bool r))] Tryz.func85 rfl Tryz.ntmps85 ?_
 intro C hC
 refine zb (za ?_)
 refine zbf ?_
 refine s_as ?_
 refine zf (zd (zb (zb (za ?_))))
 refine s_fa ze4 ?_
 refine zan yA27 yS27 ?_
 obtain ⟨v1, V1, F1⟩ := zc F0
 refine zv [] (m_impl_isName_ok fu _ _ V1) ?_
 refine zbB ?_
 refine s_mv ?_
 refine zo _ 7 F1 ?_ ?_ <;> intro C2 F2
 iterate 4 refine r_no rfl ?_
 refine zA ?_
 refine s_mv ?_
 iterate 4 refine r_no rfl ?_
 refine zA ?_
 refine s_mv ?_
 iterate 4 refine r_no rfl ?_
 refine zA ?_
 refine zf (zd (zO rfl (zb (za ?_))))
 refine s_as ?_
 refine zf (zd (zh (zg (zn ?_))))
 cases F2
 exact zl [] [] Tryz.results85
 refine s_fa ze4 ?_
 refine s_fa zdn ?_
 refine zu yA9 ?_
 refine zg6 ?_
 refine zB ?_
 refine s_mv ?_
 refine zo _ 13 F2 ?_ ?_ <;> intro C3 F3
 iterate 4 refine r_no rfl ?_
 refine zA ?_
 refine s_mv ?_
 iterate 4 refine r_no rfl ?_
 refine zA ?_
 refine zf (zd (zO rfl (zb (za ?_))))
 refine s_as ?_
 refine zf (zd (zh (zg (zn ?_))))
 cases F3
 exact zl [] [] Tryz.results85
 refine s_fa ze4 ?_
 refine s_fa zdn ?_
 refine zu yA9 ?_
 refine zg6 ?_
 refine zB ?_
 refine s_mv ?_
 refine zo _ 19 F3 ?_ ?_ <;> intro C4 F4
 iterate 4 refine r_no rfl ?_
 refine zA ?_
 refine zf (zd (zO rfl (zb (za ?_))))
 refine s_as ?_
 refine zf (zd (zh (zg (zn ?_))))
 cases F4
 exact zl [] [] Tryz.results85
 refine s_fa zf0 ?_
 refine zu yA3 ?_
 obtain ⟨v5, V5, F5⟩ := zc F4
 refine zv [] (zfr fu _ _ _ _ V5) ?_
 refine zbB ?_
 refine zB ?_
 refine zf (zd ?_)
 refine zm F5 ?_ ?_ <;> intro C6 F6
 refine zb (za ?_)
 refine s_as ?_
 refine zf (zd (zh (zg (zn ?_))))
 cases F6
 exact zl [] [] Tryz.results85
 refine zi (zd (zb (zb (za ?_))))
 refine s_fa zf0 ?_
 refine zu yA3 ?_
 refine s_eq ?_
 refine zf (zd ?_)
 refine zm F6 ?_ ?_ <;> intro C7 F7
 refine zb (za ?_)
 refine s_fa yF40_2 ?_
 refine zan yA27 yS27 ?_
 obtain ⟨v8, V8, F8⟩ := zc F7
 refine zv [] (zdj fu _ _ V8) ?_
 refine s_mv ?_
 refine zo _ 31 F8 ?_ ?_ <;> intro C9 F9
 refine s_fa zfA ?_
 refine zu yA30 ?_
 refine zE yU30 ?_
 refine s_eq ?_
 refine zA ?_
 refine s_as ?_
 refine zf (zd (zh (zg (zn ?_))))
 cases F9
 exact zl [] [] Tryz.results85
 iterate 4 refine r_no rfl ?_
 refine zB ?_
 refine s_as ?_
 refine zf (zd (zh (zg (zn ?_))))
 cases F9
 exact zl [] [] Tryz.results85
 refine zi (zd (zb (za ?_)))
 refine s_fa yF40_2 ?_
 refine zan yA27 yS27 ?_
 refine zeH yZ27 yL27 ?_
 obtain ⟨v10, V10, F8⟩ := zc F7
 refine zv [] (zbj fu _ _ _ V10) ?_
 refine s_mv ?_
 refine zo _ 41 F8 ?_ ?_ <;> intro C11 F9
 refine s_fa zfA ?_
 refine zu yA30 ?_
 refine zE yU30 ?_
 refine s_le ?_
 refine zA ?_
 refine s_mv ?_
 refine zo _ 47 F9 ?_ ?_ <;> intro C12 F10
 refine s_fa zfA ?_
 refine zu yA30 ?_
 refine s_fn ?_
 obtain ⟨v13, V13, F11⟩ := zc F10
 refine z5 [(9000, 1)] [] _ _ (ih_m_slices_ContainsFunc_Hit_hitOk_1 fu (by omega) _ _ _ V13) ?_
 refine zbB ?_
 refine zA ?_
 refine s_as ?_
 refine zf (zd (zh (zn ?_)))
 cases F11
 exact zl [] [] Tryz.results85
 iterate 5 refine r_no rfl ?_
 refine zB ?_
 refine s_as ?_
 refine zf (zd (zh (zn ?_)))
 cases F10
 exact zl [] [] Tryz.results85
 iterate 4 refine r_no rfl ?_
 refine zB ?_
 refine s_mv ?_
 iterate 5 refine r_no rfl ?_
 refine zB ?_
 refine s_as ?_
 refine zf (zd (zh (zn ?_)))
 cases F9
 exact zl [] [] Tryz.results85
theorem m_impl_hitOk_1_st (fu : Nat) (ih_m_impl_hitOk : ∀ k, k ≤ fu → zdi k) (ih_m_impl_hitOk_1 : ∀ k, k ≤ fu → zdd k) (ih_m_slices_ContainsFunc_Hit_hitOk_1 : ∀ k, k ≤ fu → zai k) (ih_m_slices_IndexFunc_Hit_hitOk_1 : ∀ k, k ≤ fu → zas k) : zdd (fu + 1) := by
 intro x1 o1 r F0
 rw [zdJ] at F0
 refine AC_i [.t (.sc (.bool r))] Tryz.func148 rfl Tryz.ntmps148 ?_
 intro C hC
 refine zb (za ?_)
 refine zbf ?_
 refine s_as ?_
 refine zf (zd (zb (za ?_)))
 refine s_fa ze4 ?_
 refine zan yA27 yS27 ?_
 refine s_fa ze4 ?_
 refine zan yA27 yS27 ?_
 obtain ⟨v1, V1, F1⟩ := zc F0
 refine zv [] (zbj fu _ _ _ V1) ?_
 refine zbB ?_
 refine s_mv ?_
 refine zo _ 10 F1 ?_ ?_ <;> intro C2 F2
 iterate 6 refine r_no rfl ?_
 refine zA ?_
 refine s_mv ?_
 iterate 3 refine r_no rfl ?_
 refine zA ?_
 refine s_as ?_
 refine zf (zd (zh (zn ?_)))
 cases F2
 exact zl _ [] Tryz.results148
 refine s_fa zf0 ?_
 refine zu yA3 ?_
 refine s_fa zf0 ?_
 refine zu yA3 ?_
 refine zg4 rfl ?_
 refine s_ne ?_
 refine zB ?_
 refine s_mv ?_
 refine zo _ 18 F2 ?_ ?_ <;> intro C3 F3
 iterate 3 refine r_no rfl ?_
 refine zA ?_
 refine s_as ?_
 refine zf (zd (zh (zn ?_)))
 cases F3
 exact zl _ [] Tryz.results148
 refine zI yA40 yS40 ?_
 obtain ⟨v4, V4, F4⟩ := zc F3
 refine zv [] (ih_m_impl_hitOk fu (by omega) _ _ V4) ?_
 refine zbB ?_
 refine zB ?_
 refine s_as ?_
 refine zf (zd (zh (zn ?_)))
 cases F4
 exact zl _ [] Tryz.results148
theorem zfb (fu : Nat) (ih_m_impl_hitOk : ∀ k, k ≤ fu → zdi k) (ih_m_impl_hitOk_1 : ∀ k, k ≤ fu → zdd k) (ih_m_slices_ContainsFunc_Hit_hitOk_1 : ∀ k, k ≤ fu → zai k) (ih_m_slices_IndexFunc_Hit_hitOk_1 : ∀ k, k ≤ fu → zas k) : zai (fu + 1) := by
 intro x1 o1 r F0
 rw [zaH] at F0
 refine AC_i [.t (.sc (.bool r))] Tryz.func147 rfl Tryz.ntmps147 ?_
 intro C hC
 refine zb (za ?_)
 refine s_as ?_
 refine zf (zd (zb (za ?_)))
 refine s_mv ?_
 refine s_mv ?_
 obtain ⟨v1, V1, F1⟩ := zc F0
 refine z5 [(9000, 9000)] [] _ _ (ih_m_slices_IndexFunc_Hit_hitOk_1 fu (by omega) _ _ _ V1) ?_
 refine s_ge ?_
 refine s_as ?_
 refine zf (zd (zh (zn ?_)))
 cases F1
 exact zl _ [] Tryz.results147
theorem zfQ (fu : Nat) (ih_m_impl_hitOk : ∀ k, k ≤ fu → zdi k) (ih_m_impl_hitOk_1 : ∀ k, k ≤ fu → zdd k) (ih_m_slices_ContainsFunc_Hit_hitOk_1 : ∀ k, k ≤ fu → zai k) (ih_m_slices_IndexFunc_Hit_hitOk_1 : ∀ k, k ≤ fu → zas k) : zas (fu + 1) := by
 intro x1 o1 r F0
 rw [zaV] at F0
 refine AC_i [.t (.sc (.int .i64 r))] Tryz.func149 rfl Tryz.ntmps149 ?_
 intro C hC
 refine zb (za ?_)
 refine s_as ?_
 refine zf (zd (zb (zb (za ?_))))
 refine s_mv ?_
 refine zE yU30 ?_
 refine s_mv ?_
 refine zf (zd (zk ?_))
 refine za1 (β := Int) [4, 5, 8, 9, 10, 11, 12, 13, 14, 15, 16, 17, 18] [] [] (fun a => [(8, .t (.sc (.int .i64 a.2)))]) (fun a => []) (fun a => a.1 ≤ fu ∧ zaf a.1 x1 o1 a.2 = some r ∧ 0 ≤ a.2) (fu, 0) ⟨Nat.le_refl _, F0, by simp⟩ ?_
 clear F0
 rintro ⟨fu, g1⟩ ⟨hl2, F1, hn_g1⟩
 dsimp only at hl2 F1 hn_g1 ⊢
 obtain _ | fu := fu
 · rw [zaf] at F1; cases F1
 rw [zaf] at F1
 refine zb (za ?_)
 refine s_lt ?_
 refine zf (zd (zb ?_))
 refine zm F1 ?_ ?_ <;> intro C3 F2
 refine zT 0 (fun B4 => ?_)
 refine zi (zd (zb (zk (zb (za ?_)))))
 refine s_mv ?_
 refine s_as ?_
 refine zf (zd (zb (za ?_)))
 iterate 3 refine s_mv ?_
 obtain ⟨v5, V5, F3⟩ := zc F2
 refine zM Hit.row V5 (Hit.row_eq _) yE30 ?_
 refine zan yA40 yS40 ?_
 obtain ⟨v6, V6, F4⟩ := zc F3
 refine z5 [(9000, 9000)] [] _ _ (ih_m_impl_hitOk_1 fu (by omega) _ _ _ V6) ?_
 refine zf (zd ?_)
 refine zm F4 ?_ ?_ <;> intro C7 F5
 refine zb (za ?_)
 refine s_mv ?_
 refine s_as ?_
 refine zf (zd (zh (zj (zg (zx (zj (zg (zn ?_))))))))
 cases F5
 exact zl _ [] Tryz.results149
 refine zi (zX (zd (za ?_)))
 refine zN (zaz C3 B4 hn_g1) ?_
 refine s_mv ?_
 refine zf ?_
 exact s_rn (fu, (g1 + 1)) ⟨by first | omega | (dsimp only; omega), F5, by first | omega | (dsimp only; omega)⟩
 refine zz (zq (zp (zr (zd (zb (za ?_))))))
 refine s_as ?_
 refine zf (zd (zh (zn ?_)))
 cases F2
 exact zl _ [] Tryz.results149
theorem m_impl_hitOk_all (fuel : Nat) : zdi fuel ∧ zdd fuel ∧ zai fuel ∧ zas fuel := by
 induction fuel using Nat.strongRecOn with
 | _ N ih =>
   cases N with
   | zero => exact ⟨(by intro x1 r h; rw [zdW] at h; cases h), (by intro x1 o1 r h; rw [zdJ] at h; cases h), (by intro x1 o1 r h; rw [zaH] at h; cases h), (by intro x1 o1 r h; rw [zaV] at h; cases h)⟩
   | succ fu => exact ⟨m_impl_hitOk_st fu (fun k hk => (ih k (by omega)).1) (fun k hk => (ih k (by omega)).2.1) (fun k hk => (ih k (by omega)).2.2.1) (fun k hk => (ih k (by omega)).2.2.2), m_impl_hitOk_1_st fu (fun k hk => (ih k (by omega)).1) (fun k hk => (ih k (by omega)).2.1) (fun k hk => (ih k (by omega)).2.2.1) (fun k hk => (ih k (by omega)).2.2.2), zfb fu (fun k hk => (ih k (by omega)).1) (fun k hk => (ih k (by omega)).2.1) (fun k hk => (ih k (by omega)).2.2.1) (fun k hk => (ih k (by omega)).2.2.2), zfQ fu (fun k hk => (ih k (by omega)).1) (fun k hk => (ih k (by omega)).2.1) (fun k hk => (ih k (by omega)).2.2.1) (fun k hk => (ih k (by omega)).2.2.2)⟩
theorem m_impl_hitOk_ok (fuel : Nat) : zdi fuel := (m_impl_hitOk_all fuel).1
def m_impl_hitAt_1_AC (fuel : Nat) : Prop := ∀ (x1 : Hit) (o1 : Form) (r : Bool), zdK fuel x1 o1 = some r → AC Tryz.prog 150 [.ag [.t (.sc (.int .i64 x1.name.kind)), .t (.sc (.str x1.name.name)), .t (.sc (.int .i64 x1.name.n)), .t (.sl (x1.name.scopes.map rI)), .t (.sl (x1.name.kids.map Form.row)), .t (.sc (.int .i64 x1.depth)), .t (.sc (.int .i64 x1.one.kind)), .t (.sc (.str x1.one.name)), .t (.sc (.int .i64 x1.one.n)), .t (.sl (x1.one.scopes.map rI)), .t (.sl (x1.one.kids.map Form.row)), .t (.sl (x1.many.map Hit.row))], .rf 9000 0] (objs [(9000, .box [.t (.sc (.int .i64 o1.kind)), .t (.sc (.str o1.name)), .t (.sc (.int .i64 o1.n)), .t (.sl (o1.scopes.map rI)), .t (.sl (o1.kids.map Form.row))])]) (.t (.sc (.bool r))) (objs [(9000, .box [.t (.sc (.int .i64 o1.kind)), .t (.sc (.str o1.name)), .t (.sc (.int .i64 o1.n)), .t (.sl (o1.scopes.map rI)), .t (.sl (o1.kids.map Form.row))])])
theorem m_impl_hitAt_1_ok (fuel : Nat) : m_impl_hitAt_1_AC fuel := by
 intro x1 o1 r F0
 unfold zdK at F0
 refine AC_i [.t (.sc (.bool r))] Tryz.func150 rfl Tryz.ntmps150 ?_
 intro C hC
 refine zb (za ?_)
 refine zbf ?_
 refine s_as ?_
 refine zf (zd (zb (za ?_)))
 refine s_fa ze4 ?_
 refine zan yA27 yS27 ?_
 refine zI yA27 yS27 ?_
 obtain ⟨v1, V1, F1⟩ := zc F0
 refine zv [] (zbj fuel _ _ _ V1) ?_
 refine s_as ?_
 refine zf (zd (zh (zn ?_)))
 cases F1
 exact zl _ [] Tryz.results150
def zfS (fuel : Nat) : Prop := ∀ (x1 : (List Hit)) (o1 : Form) (r : Int), zaW fuel x1 o1 = some r → AC Tryz.prog 149 [.t (.sl (x1.map Hit.row)), .fn 150 [.rf 9000 0]] (objs [(9000, .box [.t (.sc (.int .i64 o1.kind)), .t (.sc (.str o1.name)), .t (.sc (.int .i64 o1.n)), .t (.sl (o1.scopes.map rI)), .t (.sl (o1.kids.map Form.row))])]) (.t (.sc (.int .i64 r))) (objs [(9000, .box [.t (.sc (.int .i64 o1.kind)), .t (.sc (.str o1.name)), .t (.sc (.int .i64 o1.n)), .t (.sl (o1.scopes.map rI)), .t (.sl (o1.kids.map Form.row))])])
theorem zfR (fuel : Nat) : zfS fuel := by
 intro x1 o1 r F0
 unfold zaW at F0
 refine AC_i [.t (.sc (.int .i64 r))] Tryz.func149 rfl Tryz.ntmps149 ?_
 intro C hC
 refine zb (za ?_)
 refine s_as ?_
 refine zf (zd (zb (zb (za ?_))))
 refine s_mv ?_
 refine zE yU30 ?_
 refine s_mv ?_
 refine zf (zd (zk ?_))
 refine za1 (β := Int) [4, 5, 8, 9, 10, 11, 12, 13, 14, 15, 16, 17, 18] [] [] (fun a => [(8, .t (.sc (.int .i64 a.2)))]) (fun a => []) (fun a => a.1 ≤ fuel ∧ zP a.1 x1 o1 a.2 = some r ∧ 0 ≤ a.2) (fuel, 0) ⟨Nat.le_refl _, F0, by simp⟩ ?_
 clear F0
 rintro ⟨fu, g1⟩ ⟨hl2, F1, hn_g1⟩
 dsimp only at hl2 F1 hn_g1 ⊢
 obtain _ | fu := fu
 · rw [zP] at F1; cases F1
 rw [zP] at F1
 refine zb (za ?_)
 refine s_lt ?_
 refine zf (zd (zb ?_))
 refine zm F1 ?_ ?_ <;> intro C3 F2
 refine zT 0 (fun B4 => ?_)
 refine zi (zd (zb (zk (zb (za ?_)))))
 refine s_mv ?_
 refine s_as ?_
 refine zf (zd (zb (za ?_)))
 iterate 3 refine s_mv ?_
 obtain ⟨v5, V5, F3⟩ := zc F2
 refine zM Hit.row V5 (Hit.row_eq _) yE30 ?_
 refine zan yA40 yS40 ?_
 obtain ⟨v6, V6, F4⟩ := zc F3
 refine z5 [(9000, 9000)] [] _ _ (m_impl_hitAt_1_ok fu _ _ _ V6) ?_
 refine zf (zd ?_)
 refine zm F4 ?_ ?_ <;> intro C7 F5
 refine zb (za ?_)
 refine s_mv ?_
 refine s_as ?_
 refine zf (zd (zh (zj (zg (zx (zj (zg (zn ?_))))))))
 cases F5
 exact zl _ [] Tryz.results149
 refine zi (zX (zd (za ?_)))
 refine zN (zaz C3 B4 hn_g1) ?_
 refine s_mv ?_
 refine zf ?_
 exact s_rn (fu, (g1 + 1)) ⟨by first | omega | (dsimp only; omega), F5, by first | omega | (dsimp only; omega)⟩
 refine zz (zq (zp (zr (zd (zb (za ?_))))))
 refine s_as ?_
 refine zf (zd (zh (zn ?_)))
 cases F2
 exact zl _ [] Tryz.results149
end Go.Abs
