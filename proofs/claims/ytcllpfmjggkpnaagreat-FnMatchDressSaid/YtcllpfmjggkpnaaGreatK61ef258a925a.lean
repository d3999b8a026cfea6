/- A part of the proof: what the functions that the law calls answer, as pure values. -/
import Derived.Test.YtcllpfmjggkpnaaGreatK227875200f03
import Derived.Test.YtcllpfmjggkpnaaGreatKa15390ddf9b4
import Derived.Test.YtcllpfmjggkpnaaGreatK98a493ba4651
import Derived.Test.YtcllpfmjggkpnaaGreatK864b0b0c4822
import Derived.Test.YtcllpfmjggkpnaaGreatK2128be1e8112
set_option linter.unusedSimpArgs false
set_option linter.unusedVariables false
set_option maxRecDepth 100000
set_option maxHeartbeats 4000000
namespace Go.Abs
open Go.Proofs
def zg0 (fuel : Nat) : Prop := ∀ (x1 : Int) (o1 : (List Int)) (r : Bool), zcw fuel x1 o1 = some r → AC Tryz.prog 161 [.t (.sc (.int .i64 x1)), .rf 9000 0] (objs [(9000, .box [.t (.sl (o1.map rI))])]) (.t (.sc (.bool r))) (objs [(9000, .box [.t (.sl (o1.map rI))])])
theorem zgZ (fuel : Nat) : zg0 fuel := by
 intro x1 o1 r F0
 unfold zcw at F0
 refine AC_i [.t (.sc (.bool r))] Tryz.func161 rfl Tryz.ntmps161 ?_
 intro C hC
 refine zb (za ?_)
 refine s_as ?_
 refine zf (zd (zb (za ?_)))
 refine zv yA24 ?_
 refine s_mv ?_
 obtain ⟨v1, V1, F1⟩ := zc F0
 refine zx [] (zgX fuel _ _ _ V1) ?_
 refine zby ?_
 refine s_as ?_
 refine zf (zd (zh (zm ?_)))
 cases F1
 exact zk _ [] Tryz.results161
def zem (fuel : Nat) : Prop := ∀ (x1 : (List Int)) (o1 : (List Int)) (r : Int), zaX fuel x1 o1 = some r → AC Tryz.prog 160 [.t (.sl (x1.map rI)), .fn 161 [.rf 9000 0]] (objs [(9000, .box [.t (.sl (o1.map rI))])]) (.t (.sc (.int .i64 r))) (objs [(9000, .box [.t (.sl (o1.map rI))])])
theorem zel (fuel : Nat) : zem fuel := by
 intro x1 o1 r F0
 unfold zaX at F0
 refine AC_i [.t (.sc (.int .i64 r))] Tryz.func160 rfl Tryz.ntmps160 ?_
 intro C hC
 refine zb (za ?_)
 refine s_as ?_
 refine zf (zd (zb (zb (za ?_))))
 refine s_mv ?_
 refine zD yU24 ?_
 refine s_mv ?_
 refine zf (zd (zl ?_))
 refine zbu (β := Int) [4, 5, 8, 9, 10, 11, 12, 13, 14, 15, 16, 17, 18] [] [] (fun a => [(8, .t (.sc (.int .i64 a.2)))]) (fun a => []) (fun a => a.1 ≤ fuel ∧ zH a.1 x1 o1 a.2 = some r ∧ 0 ≤ a.2) (fuel, 0) ⟨Nat.le_refl _, F0, by simp⟩ ?_
 clear F0
 rintro ⟨fu, g1⟩ ⟨hl2, F1, hn_g1⟩
 dsimp only at hl2 F1 hn_g1 ⊢
 obtain _ | fu := fu
 · rw [zH] at F1; cases F1
 rw [zH] at F1
 refine zb (za ?_)
 refine s_lt ?_
 refine zf (zd (zb ?_))
 refine zo F1 ?_ ?_ <;> intro C3 F2
 refine zT 0 (fun B4 => ?_)
 refine zi (zd (zb (zl (zb (za ?_)))))
 refine s_mv ?_
 refine s_as ?_
 refine zf (zd (zb (za ?_)))
 iterate 3 refine s_mv ?_
 obtain ⟨v5, V5, F3⟩ := zc F2
 refine z7 rI V5 rfl yE24 ?_
 refine zv yA3 ?_
 obtain ⟨v6, V6, F4⟩ := zc F3
 refine zN [(9000, 9000)] [] _ _ (zgZ fu _ _ _ V6) ?_
 refine zf (zd ?_)
 refine zo F4 ?_ ?_ <;> intro C7 F5
 refine zb (za ?_)
 refine s_mv ?_
 refine s_as ?_
 refine zf (zd (zh (zj (zg (zw (zj (zg (zm ?_))))))))
 cases F5
 exact zk _ [] Tryz.results160
 refine zi (zX (zd (za ?_)))
 refine zQ (zbg C3 B4 hn_g1) ?_
 refine s_mv ?_
 refine zf ?_
 exact s_rn (fu, (g1 + 1)) ⟨by first | omega | (dsimp only; omega), F5, by first | omega | (dsimp only; omega)⟩
 refine zC (zr (zq (zu (zd (zb (za ?_))))))
 refine s_as ?_
 refine zf (zd (zh (zm ?_)))
 cases F2
 exact zk _ [] Tryz.results160
def zdL (fuel : Nat) : Prop := ∀ (x1 : (List Int)) (o1 : (List Int)) (r : Bool), zaK fuel x1 o1 = some r → AC Tryz.prog 150 [.t (.sl (x1.map rI)), .fn 161 [.rf 9000 0]] (objs [(9000, .box [.t (.sl (o1.map rI))])]) (.t (.sc (.bool r))) (objs [(9000, .box [.t (.sl (o1.map rI))])])
theorem zdK (fuel : Nat) : zdL fuel := by
 intro x1 o1 r F0
 unfold zaK at F0
 refine AC_i [.t (.sc (.bool r))] Tryz.func150 rfl Tryz.ntmps150 ?_
 intro C hC
 refine zb (za ?_)
 refine s_as ?_
 refine zf (zd (zb (za ?_)))
 refine s_mv ?_
 refine s_mv ?_
 obtain ⟨v1, V1, F1⟩ := zc F0
 refine zN [(9000, 9000)] [] _ _ (zel fuel _ _ _ V1) ?_
 refine s_ge ?_
 refine s_as ?_
 refine zf (zd (zh (zm ?_)))
 cases F1
 exact zk _ [] Tryz.results150
def m_impl_ScopesWithin_AC (fuel : Nat) : Prop := ∀ (x1 : (List Int)) (x2 : (List Int)) (r : Bool), zcg fuel x1 x2 = some r → AC Tryz.prog 152 [.t (.sl (x1.map rI)), .t (.sl (x2.map rI))] noOb (.t (.sc (.bool r))) noOb
theorem zfN (fuel : Nat) : m_impl_ScopesWithin_AC fuel := by
 intro x1 x2 r F0
 unfold zcg at F0
 refine AC_i [.t (.sc (.bool r))] Tryz.func152 rfl Tryz.ntmps152 ?_
 intro C hC
 refine zb (za ?_)
 refine zbz ?_
 refine s_as ?_
 refine zf (zd (zb (za ?_)))
 refine s_mv ?_
 refine s_fn ?_
 obtain ⟨v1, V1, F1⟩ := zc F0
 refine zN [(9000, 3)] [] _ _ (zdK fuel _ _ _ V1) ?_
 refine zby ?_
 refine s_as ?_
 refine zf (zd (zh (zm ?_)))
 cases F1
 exact zk [] [] Tryz.results152
def m_impl_fitting_AC (fuel : Nat) : Prop := ∀ (x1 : (List Bind)) (x2 : Form) (r : (List Int)), zeY fuel x1 x2 = some r → AC Tryz.prog 149 [.t (.sl (x1.map Bind.row)), .ag [.t (.sc (.int .i64 x2.kind)), .t (.sc (.str x2.name)), .t (.sc (.int .i64 x2.n)), .t (.sl (x2.scopes.map rI)), .t (.sl (x2.kids.map Form.row))]] noOb (.t (.sl (r.map rI))) noOb
theorem m_impl_fitting_ok (fuel : Nat) : m_impl_fitting_AC fuel := by
 intro x1 x2 r F0
 unfold zeY at F0
 refine AC_i [.t (.sl (r.map rI))] Tryz.func149 rfl Tryz.ntmps149 ?_
 intro C hC
 refine zb (za ?_)
 refine zbz ?_
 refine s_as ?_
 refine zf (zd (zb (za ?_)))
 refine s_bs rI ([] : List Int) yP24 yR3 ?_
 refine s_as ?_
 refine zf (zd (zb (zb (za ?_))))
 refine s_mv ?_
 refine zD yU23 ?_
 refine s_mv ?_
 refine zf (zd (zl ?_))
 refine zcy 5 8 5020 (by conv => lhs; whnf) (by conv => lhs; whnf) rfl ?_
 refine zax [5, 6, 7, 11, 12, 13, 14, 15, 16, 17, 18, 19, 20, 21, 22, 23, 24, 25, 26, 27, 28, 29, 30, 31, 32] [5020] [7, 30, 31] [5020] (fun a : Nat × (List Int) × Int => a.1) (fun a : Nat × (List Int) × Int => [(5, .ar 5020), (11, .t (.sc (.int .i64 a.2.2)))]) (fun a : Nat × (List Int) × Int => [(5020, .arr (a.2.1.map rI) 3 true)]) (fun a : Nat × (List Int) × Int => a.1 ≤ fuel ∧ zbw a.1 x1 x2 a.2.1 a.2.2 = some r ∧ 0 ≤ a.2.2) (fuel, ([] : List Int), 0) ⟨Nat.le_refl _, F0, by simp⟩ (by rfl) (by rfl) (fun _ => rfl) (zL (by conv => lhs; whnf) (by rfl) (zL (by conv => lhs; whnf) (by rfl) zbx)) (zP (by conv => lhs; whnf) (by rfl) zbm) (zcx hC rfl) (by repeat (first | exact zak rfl | refine zaG rfl ?_ | refine zZ rfl ?_)) (by repeat (first | exact za3 | exact zas rfl | refine zaH rfl ?_ | refine z6 rfl ?_)) ?_
 clear F0
 rintro ⟨fu, g1, g2⟩ ⟨hl3, F1, hn_g2⟩
 dsimp only at hl3 F1 hn_g2 ⊢
 obtain _ | fu := fu
 · rw [zbw] at F1; cases F1
 rw [zbw] at F1
 refine zb (za ?_)
 refine s_lt ?_
 refine zf (zd (zb ?_))
 refine zo F1 ?_ ?_ <;> intro C4 F2
 refine zT 0 (fun B5 => ?_)
 refine zi (zd (zb (zl (zb (za ?_)))))
 refine s_mv ?_
 obtain ⟨v6, V6, F3⟩ := zc F2
 refine z7 Bind.row V6 (Bind.row_eq _) yE23 ?_
 refine za1 yA50 yS50 ?_
 refine zY yZ50 ?_
 refine s_as ?_
 refine zap yS50 ?_
 refine zf (zd ?_)
 refine zbY (α := Nat × Bool) [16, 17, 18, 19, 20, 21, 22, 23, 24, 25, 26, 27] [] [] (fun a => [(27, .t (.sc (.bool a.2)))]) (fun a => []) (fun a => a.1 ≤ fu ∧ zcf a.1 x1 x2 g1 g2 a.2 = some r) ?_ ?_
 refine za ?_
 refine s_fa yF50_0 ?_
 refine zv yA9 ?_
 refine s_fa zbQ ?_
 refine zv yA9 ?_
 refine zf1 ?_
 refine s_mv ?_
 refine zp _ 21 F3 ?_ ?_ <;> intro C7 F4
 refine s_fa yF50_1 ?_
 refine zv yA24 ?_
 refine s_fa zeQ ?_
 refine zv yA24 ?_
 obtain ⟨v8, V8, F5⟩ := zc F4
 refine zx [] (zfN fu _ _ _ V8) ?_
 refine zz ?_
 refine zf ?_
 exact s_jn (fu, v8) ⟨by first | omega | (dsimp only; omega), F5⟩
 iterate 5 refine r_no rfl ?_
 refine zy ?_
 refine zf ?_
 exact s_jn (fu, false) ⟨by first | omega | (dsimp only; omega), F4⟩
 clear F3
 rintro ⟨fu, g9⟩ ⟨hl10, F4⟩
 dsimp only at hl10 F4 ⊢
 obtain _ | fu := fu
 · rw [zcf] at F4; cases F4
 rw [zcf] at F4
 refine zo F4 ?_ ?_ <;> intro C11 F5
 refine za ?_
 refine s_mv ?_
 refine s_mv ?_
 refine s_bs rI [g2] yP24 yR3 ?_
 obtain ⟨hk12, F6⟩ := zai F5
 refine zfo rI (fun _ => rfl) hk12 yP24 ?_
 refine s_as ?_
 refine zf (zX (zd (za ?_)))
 refine zQ (zbg C4 B5 hn_g2) ?_
 refine s_mv ?_
 refine zf ?_
 exact s_rn (fu, (g1 ++ [g2]), (g2 + 1)) ⟨by first | omega | (dsimp only; omega), F6, by first | omega | (dsimp only; omega)⟩ [(5020, 31)]
 refine zi (zX (zd (za ?_)))
 refine zQ (zbg C4 B5 hn_g2) ?_
 refine s_mv ?_
 refine zf ?_
 exact s_rn (fu, g1, (g2 + 1)) ⟨by first | omega | (dsimp only; omega), F5, by first | omega | (dsimp only; omega)⟩
 refine zC (zr (zq (zu (zd (zb (za ?_))))))
 refine s_mv ?_
 refine s_as ?_
 refine zf (zd (zh (zm ?_)))
 cases F2
 exact zk [] [5020] Tryz.results149
def m_impl_bound_1_AC (fuel : Nat) : Prop := ∀ (x1 : Int) (o1 : (List Bind)) (o2 : Int) (r : Bool), zeZ fuel x1 o1 o2 = some r → AC Tryz.prog 151 [.t (.sc (.int .i64 x1)), .rf 9000 0, .rf 9001 0] (objs [(9000, .box [.t (.sl (o1.map Bind.row))]), (9001, .box [.t (.sc (.int .i64 o2))])]) (.t (.sc (.bool r))) (objs [(9000, .box [.t (.sl (o1.map Bind.row))]), (9001, .box [.t (.sc (.int .i64 o2))])])
theorem m_impl_bound_1_ok (fuel : Nat) : m_impl_bound_1_AC fuel := by
 intro x1 o1 o2 r F0
 unfold zeZ at F0
 refine AC_i [.t (.sc (.bool r))] Tryz.func151 rfl Tryz.ntmps151 ?_
 intro C hC
 refine zb (za ?_)
 refine s_as ?_
 refine zf (zd (zb ?_))
 refine zW yMix (by kernel_rfl) ?_
 refine zv yA23 ?_
 refine s_mv ?_
 obtain ⟨v1, V1, F1⟩ := zc F0
 refine z7 Bind.row V1 (Bind.row_eq _) yE23 ?_
 refine s_fa yF50_1 ?_
 refine zv yA24 ?_
 refine zv yA23 ?_
 refine zv yA3 ?_
 obtain ⟨v2, V2, F2⟩ := zc F1
 refine z7 Bind.row V2 (Bind.row_eq _) yE23 ?_
 refine s_fa yF50_1 ?_
 refine zv yA24 ?_
 obtain ⟨v3, V3, F3⟩ := zc F2
 refine zx [] (zfN fuel _ _ _ V3) ?_
 refine zby ?_
 refine s_as ?_
 refine zaA (by kernel_rfl) ?_
 refine zd (zh (zm ?_))
 cases F3
 exact zk _ [] Tryz.results151
def zfx (fuel : Nat) : Prop := ∀ (x1 : (List Int)) (o1 : (List Bind)) (o2 : Int) (r : Int), zbA fuel x1 o1 o2 = some r → AC Tryz.prog 160 [.t (.sl (x1.map rI)), .fn 151 [.rf 9000 0, .rf 9001 0]] (objs [(9000, .box [.t (.sl (o1.map Bind.row))]), (9001, .box [.t (.sc (.int .i64 o2))])]) (.t (.sc (.int .i64 r))) (objs [(9000, .box [.t (.sl (o1.map Bind.row))]), (9001, .box [.t (.sc (.int .i64 o2))])])
theorem zfw (fuel : Nat) : zfx fuel := by
 intro x1 o1 o2 r F0
 unfold zbA at F0
 refine AC_i [.t (.sc (.int .i64 r))] Tryz.func160 rfl Tryz.ntmps160 ?_
 intro C hC
 refine zb (za ?_)
 refine s_as ?_
 refine zf (zd (zb (zb (za ?_))))
 refine s_mv ?_
 refine zD yU24 ?_
 refine s_mv ?_
 refine zf (zd (zl ?_))
 refine zbu (β := Int) [4, 5, 8, 9, 10, 11, 12, 13, 14, 15, 16, 17, 18] [] [] (fun a => [(8, .t (.sc (.int .i64 a.2)))]) (fun a => []) (fun a => a.1 ≤ fuel ∧ z8 a.1 x1 o1 o2 a.2 = some r ∧ 0 ≤ a.2) (fuel, 0) ⟨Nat.le_refl _, F0, by simp⟩ ?_
 clear F0
 rintro ⟨fu, g1⟩ ⟨hl2, F1, hn_g1⟩
 dsimp only at hl2 F1 hn_g1 ⊢
 obtain _ | fu := fu
 · rw [z8] at F1; cases F1
 rw [z8] at F1
 refine zb (za ?_)
 refine s_lt ?_
 refine zf (zd (zb ?_))
 refine zo F1 ?_ ?_ <;> intro C3 F2
 refine zT 0 (fun B4 => ?_)
 refine zi (zd (zb (zl (zb (za ?_)))))
 refine s_mv ?_
 refine s_as ?_
 refine zf (zd (zb (za ?_)))
 iterate 3 refine s_mv ?_
 obtain ⟨v5, V5, F3⟩ := zc F2
 refine z7 rI V5 rfl yE24 ?_
 refine zv yA3 ?_
 obtain ⟨v6, V6, F4⟩ := zc F3
 refine zN [(9000, 9000), (9001, 9001)] [] _ _ (m_impl_bound_1_ok fu _ _ _ _ V6) ?_
 refine zf (zd ?_)
 refine zo F4 ?_ ?_ <;> intro C7 F5
 refine zb (za ?_)
 refine s_mv ?_
 refine s_as ?_
 refine zf (zd (zh (zj (zg (zw (zj (zg (zm ?_))))))))
 cases F5
 exact zk _ [] Tryz.results160
 refine zi (zX (zd (za ?_)))
 refine zQ (zbg C3 B4 hn_g1) ?_
 refine s_mv ?_
 refine zf ?_
 exact s_rn (fu, (g1 + 1)) ⟨by first | omega | (dsimp only; omega), F5, by first | omega | (dsimp only; omega)⟩
 refine zC (zr (zq (zu (zd (zb (za ?_))))))
 refine s_as ?_
 refine zf (zd (zh (zm ?_)))
 cases F2
 exact zk _ [] Tryz.results160
def zeU (fuel : Nat) : Prop := ∀ (x1 : (List Int)) (o1 : (List Bind)) (o2 : Int) (r : Bool), zbj fuel x1 o1 o2 = some r → AC Tryz.prog 150 [.t (.sl (x1.map rI)), .fn 151 [.rf 9000 0, .rf 9001 0]] (objs [(9000, .box [.t (.sl (o1.map Bind.row))]), (9001, .box [.t (.sc (.int .i64 o2))])]) (.t (.sc (.bool r))) (objs [(9000, .box [.t (.sl (o1.map Bind.row))]), (9001, .box [.t (.sc (.int .i64 o2))])])
theorem zeT (fuel : Nat) : zeU fuel := by
 intro x1 o1 o2 r F0
 unfold zbj at F0
 refine AC_i [.t (.sc (.bool r))] Tryz.func150 rfl Tryz.ntmps150 ?_
 intro C hC
 refine zb (za ?_)
 refine s_as ?_
 refine zf (zd (zb (za ?_)))
 refine s_mv ?_
 refine s_mv ?_
 obtain ⟨v1, V1, F1⟩ := zc F0
 refine zN [(9000, 9000), (9001, 9001)] [] _ _ (zfw fuel _ _ _ _ V1) ?_
 refine s_ge ?_
 refine s_as ?_
 refine zf (zd (zh (zm ?_)))
 cases F1
 exact zk _ [] Tryz.results150
def m_impl_bound_AC (fuel : Nat) : Prop := ∀ (x1 : (List Bind)) (x2 : Form) (r : (Int × Int)), zf7 fuel x1 x2 = some r → AC Tryz.prog 139 [.t (.sl (x1.map Bind.row)), .ag [.t (.sc (.int .i64 x2.kind)), .t (.sc (.str x2.name)), .t (.sc (.int .i64 x2.n)), .t (.sl (x2.scopes.map rI)), .t (.sl (x2.kids.map Form.row))]] noOb (.tp [.t (.sc (.int .i64 r.1)), .t (.sc (.int .i64 r.2))]) noOb
theorem m_impl_bound_ok (fuel : Nat) : m_impl_bound_AC fuel := by
 intro x1 x2 r F0
 unfold zf7 at F0
 refine AC_i [.t (.sc (.int .i64 r.1)), .t (.sc (.int .i64 r.2))] Tryz.func139 rfl Tryz.ntmps139 ?_
 intro C hC
 refine zb (za ?_)
 refine zbz ?_
 refine zbz ?_
 refine s_as ?_
 refine s_as ?_
 refine zf (zd (zb (za ?_)))
 refine zv yA23 ?_
 refine zI yA27 yS27 ?_
 obtain ⟨v1, V1, F1⟩ := zc F0
 refine zx [] (m_impl_fitting_ok fuel _ _ _ V1) ?_
 refine s_as ?_
 refine zf (zd (zb (zb (za ?_))))
 refine s_mv ?_
 refine zD yU24 ?_
 refine s_eq ?_
 refine zf (zd ?_)
 refine zo F1 ?_ ?_ <;> intro C2 F2
 refine zb (za ?_)
 refine s_as ?_
 refine s_as ?_
 refine zf (zd (zh (zg (zm ?_))))
 cases F2
 exact zk [] [] Tryz.results139
 refine zi (zd (zb (zb (za ?_))))
 refine s_mv ?_
 refine zD yU24 ?_
 refine s_mv ?_
 refine zf (zd (zl ?_))
 refine zbu (β := Int) [4, 5, 8, 17, 18, 19, 20, 21, 22, 23, 24, 25, 26] [] [8] (fun a => [(17, .t (.sc (.int .i64 a.2)))]) (fun a => []) (fun a => a.1 ≤ fuel ∧ zcv a.1 x1 v1 a.2 = some r ∧ 0 ≤ a.2) (fuel, 0) ⟨Nat.le_refl _, F2, by simp⟩ ?_
 clear F2
 rintro ⟨fu, g3⟩ ⟨hl4, F3, hn_g3⟩
 dsimp only at hl4 F3 hn_g3 ⊢
 obtain _ | fu := fu
 · rw [zcv] at F3; cases F3
 rw [zcv] at F3
 refine zb (za ?_)
 refine s_lt ?_
 refine zf (zd (zb ?_))
 refine zo F3 ?_ ?_ <;> intro C5 F4
 refine zT 6 (fun B6 => ?_)
 refine zi (zd (zb (zl (zb (za ?_)))))
 obtain ⟨v7, V7, F5⟩ := zc F4
 refine z7 rI V7 rfl yE24 ?_
 refine zv yA3 ?_
 refine zY yZ3 ?_
 refine zap yS3 ?_
 refine zf (zd (zb (za ?_)))
 refine s_mv ?_
 refine s_fn ?_
 obtain ⟨v8, V8, F6⟩ := zc F5
 refine zN [(9000, 2), (9001, 8)] [] _ _ (zeT fu _ _ _ _ V8) ?_
 refine zby ?_
 refine zf (zd ?_)
 refine zo F6 ?_ ?_ <;> intro C9 F7
 refine zb (za ?_)
 refine zv yA3 ?_
 refine s_as ?_
 refine s_as ?_
 refine zf (zd (zh (zj (zg (zw (zj (zg (zm ?_))))))))
 cases F7
 exact zk [] [] Tryz.results139
 refine zi (zX (zd (za ?_)))
 refine zQ (zbg C5 B6 hn_g3) ?_
 refine s_mv ?_
 refine zf ?_
 exact s_rn (fu, (g3 + 1)) ⟨by first | omega | (dsimp only; omega), F7, by first | omega | (dsimp only; omega)⟩
 refine zC (zr (zq (zu (zd (zb (za ?_))))))
 refine s_as ?_
 refine s_as ?_
 refine zf (zd (zh (zm ?_)))
 cases F4
 exact zk [] [] Tryz.results139
def m_impl_FindName_AC (fuel : Nat) : Prop := ∀ (x1 : (List Bind)) (x2 : Form) (r : (Int × Int)), zdB fuel x1 x2 = some r → AC Tryz.prog 111 [.t (.sl (x1.map Bind.row)), .ag [.t (.sc (.int .i64 x2.kind)), .t (.sc (.str x2.name)), .t (.sc (.int .i64 x2.n)), .t (.sl (x2.scopes.map rI)), .t (.sl (x2.kids.map Form.row))]] noOb (.tp [.t (.sc (.int .i64 r.1)), .t (.sc (.int .i64 r.2))]) noOb
theorem zgN (fuel : Nat) : m_impl_FindName_AC fuel := by
 intro x1 x2 r F0
 unfold zdB at F0
 refine AC_i [.t (.sc (.int .i64 r.1)), .t (.sc (.int .i64 r.2))] Tryz.func111 rfl Tryz.ntmps111 ?_
 intro C hC
 refine zb (za ?_)
 refine zbz ?_
 refine s_as ?_
 refine s_as ?_
 refine zf (zd (zb ?_))
 refine zbY (α := Nat × Bool) [8, 9, 10, 11, 12, 13, 14, 15] [] [] (fun a => [(15, .t (.sc (.bool a.2)))]) (fun a => []) (fun a => a.1 ≤ fuel ∧ zcC a.1 x1 x2 a.2 = some r) ?_ ?_
 refine za ?_
 refine s_mv ?_
 obtain ⟨v1, V1, F1⟩ := zc F0
 refine zx [] (zeP fuel _ _ V1) ?_
 refine zby ?_
 refine s_mv ?_
 refine zp _ 11 F1 ?_ ?_ <;> intro C2 F2
 iterate 3 refine r_no rfl ?_
 refine zz ?_
 refine zf ?_
 exact s_jn (fuel, true) ⟨by first | omega | (dsimp only; omega), F2⟩
 refine zI yA27 yS27 ?_
 obtain ⟨v3, V3, F3⟩ := zc F2
 refine zx [] (zeb fuel _ _ V3) ?_
 refine zby ?_
 refine zy ?_
 refine zf ?_
 exact s_jn (fuel, (!v3)) ⟨by first | omega | (dsimp only; omega), F3⟩
 clear F0
 rintro ⟨fu, g4⟩ ⟨hl5, F1⟩
 dsimp only at hl5 F1 ⊢
 obtain _ | fu := fu
 · rw [zcC] at F1; cases F1
 rw [zcC] at F1
 refine zo F1 ?_ ?_ <;> intro C6 F2
 refine zb (za ?_)
 refine s_as ?_
 refine s_as ?_
 refine zf (zd (zh (zg (zm ?_))))
 cases F2
 exact zk [] [] Tryz.results111
 refine zi (zd (zb (za ?_)))
 refine s_mv ?_
 refine zI yA27 yS27 ?_
 obtain ⟨v7, V7, F3⟩ := zc F2
 refine zx [] (m_impl_bound_ok fu _ _ _ V7) ?_
 refine s_mv ?_
 refine zbP ?_
 refine zbP ?_
 refine s_as ?_
 refine s_as ?_
 refine zf (zd (zb (zb (za ?_))))
 refine s_mv ?_
 refine s_ne ?_
 refine zf (zd ?_)
 refine zo F3 ?_ ?_ <;> intro C8 F4
 refine zb (za ?_)
 refine s_mv ?_
 refine s_as ?_
 refine s_as ?_
 refine zf (zd (zh (zg (zm ?_))))
 cases F4
 exact zk [] [] Tryz.results111
 refine zi (zd (zb (za ?_)))
 refine s_mv ?_
 refine s_mv ?_
 obtain ⟨v9, V9, F5⟩ := zc F4
 refine z7 Bind.row V9 (Bind.row_eq _) yE23 ?_
 refine s_fa yF50_2 ?_
 refine zv yA3 ?_
 refine s_as ?_
 refine s_as ?_
 refine zf (zd (zh (zm ?_)))
 cases F5
 exact zk [] [] Tryz.results111
def zhg (fuel : Nat) : Prop := ∀ (x1 : (List Bind)) (x2 : Form) (x3 : Form) (r : Bool), zcJ fuel x1 x2 x3 = some r → AC Tryz.prog 59 [.t (.sl (x1.map Bind.row)), .ag [.t (.sc (.int .i64 x2.kind)), .t (.sc (.str x2.name)), .t (.sc (.int .i64 x2.n)), .t (.sl (x2.scopes.map rI)), .t (.sl (x2.kids.map Form.row))], .ag [.t (.sc (.int .i64 x3.kind)), .t (.sc (.str x3.name)), .t (.sc (.int .i64 x3.n)), .t (.sl (x3.scopes.map rI)), .t (.sl (x3.kids.map Form.row))]] noOb (.t (.sc (.bool r))) noOb
theorem zhf (fuel : Nat) : zhg fuel := by
 intro x1 x2 x3 r F0
 unfold zcJ at F0
 refine AC_i [.t (.sc (.bool r))] Tryz.func59 rfl Tryz.ntmps59 ?_
 intro C hC
 refine zb (za ?_)
 refine zbz ?_
 refine zbz ?_
 refine s_as ?_
 refine zf (zd (zb ?_))
 refine zbY (α := Nat × Bool) [11, 12, 13, 14, 15, 16, 17, 18, 19, 20, 21, 22, 23] [] [] (fun a => [(23, .t (.sc (.bool a.2)))]) (fun a => []) (fun a => a.1 ≤ fuel ∧ zav a.1 x1 x2 x3 a.2 = some r) ?_ ?_
 refine za ?_
 refine s_mv ?_
 obtain ⟨v1, V1, F1⟩ := zc F0
 refine zx [] (zeP fuel _ _ V1) ?_
 refine zby ?_
 refine s_mv ?_
 refine zp _ 14 F1 ?_ ?_ <;> intro C2 F2
 iterate 3 refine r_no rfl ?_
 refine zz ?_
 refine s_mv ?_
 iterate 3 refine r_no rfl ?_
 refine zz ?_
 refine zf ?_
 exact s_jn (fuel, true) ⟨by first | omega | (dsimp only; omega), F2⟩
 refine zI yA27 yS27 ?_
 obtain ⟨v3, V3, F3⟩ := zc F2
 refine zx [] (zeb fuel _ _ V3) ?_
 refine zby ?_
 refine zy ?_
 refine s_mv ?_
 refine zp _ 19 F3 ?_ ?_ <;> intro C4 F4
 iterate 3 refine r_no rfl ?_
 refine zz ?_
 refine zf ?_
 exact s_jn (fuel, true) ⟨by first | omega | (dsimp only; omega), F4⟩
 refine zI yA27 yS27 ?_
 obtain ⟨v5, V5, F5⟩ := zc F4
 refine zx [] (zeb fuel _ _ V5) ?_
 refine zby ?_
 refine zy ?_
 refine zf ?_
 exact s_jn (fuel, (!v5)) ⟨by first | omega | (dsimp only; omega), F5⟩
 clear F0
 rintro ⟨fu, g6⟩ ⟨hl7, F1⟩
 dsimp only at hl7 F1 ⊢
 obtain _ | fu := fu
 · rw [zav] at F1; cases F1
 rw [zav] at F1
 refine zo F1 ?_ ?_ <;> intro C8 F2
 refine zb (za ?_)
 refine s_as ?_
 refine zf (zd (zh (zg (zm ?_))))
 cases F2
 exact zk [] [] Tryz.results59
 refine zi (zd (zb (za ?_)))
 refine s_mv ?_
 refine zI yA27 yS27 ?_
 obtain ⟨v9, V9, F3⟩ := zc F2
 refine zx [] (zgN fu _ _ _ V9) ?_
 refine s_mv ?_
 refine zbP ?_
 refine zbP ?_
 refine s_as ?_
 refine s_as ?_
 refine zf (zd (zb (za ?_)))
 refine s_mv ?_
 refine zI yA27 yS27 ?_
 obtain ⟨v10, V10, F4⟩ := zc F3
 refine zx [] (zgN fu _ _ _ V10) ?_
 refine s_mv ?_
 refine zbP ?_
 refine zbP ?_
 refine s_as ?_
 refine s_as ?_
 refine zf (zd (zb (za ?_)))
 refine s_mv ?_
 refine s_eq ?_
 refine s_mv ?_
 refine zp _ 38 F4 ?_ ?_ <;> intro C11 F5
 refine s_mv ?_
 refine s_eq ?_
 refine zz ?_
 refine s_mv ?_
 refine zp _ 42 F5 ?_ ?_ <;> intro C12 F6
 refine s_mv ?_
 refine s_mv ?_
 refine s_eq ?_
 refine zz ?_
 refine s_mv ?_
 refine zp _ 47 F6 ?_ ?_ <;> intro C13 F7
 iterate 13 refine r_no rfl ?_
 refine zz ?_
 refine s_as ?_
 refine zf (zd (zh (zm ?_)))
 cases F7
 exact zk [] [] Tryz.results59
 refine s_mv ?_
 refine s_eq ?_
 refine s_mv ?_
 refine zp _ 50 F7 ?_ ?_ <;> intro C14 F8
 refine s_mv ?_
 refine s_eq ?_
 refine zz ?_
 refine s_mv ?_
 refine zp _ 54 F8 ?_ ?_ <;> intro C15 F9
 refine s_fa zbQ ?_
 refine zv yA9 ?_
 refine s_fa zbQ ?_
 refine zv yA9 ?_
 refine zf1 ?_
 refine zz ?_
 refine zy ?_
 refine s_as ?_
 refine zf (zd (zh (zm ?_)))
 cases F9
 exact zk [] [] Tryz.results59
 iterate 5 refine r_no rfl ?_
 refine zy ?_
 refine zy ?_
 refine s_as ?_
 refine zf (zd (zh (zm ?_)))
 cases F9
 exact zk [] [] Tryz.results59
 refine r_no rfl (r_no rfl ?_)
 refine zy ?_
 refine s_mv ?_
 iterate 5 refine r_no rfl ?_
 refine zy ?_
 refine zy ?_
 refine s_as ?_
 refine zf (zd (zh (zm ?_)))
 cases F8
 exact zk [] [] Tryz.results59
 iterate 3 refine r_no rfl ?_
 refine zy ?_
 refine s_mv ?_
 refine s_mv ?_
 refine s_eq ?_
 refine s_mv ?_
 refine zp _ 50 F6 ?_ ?_ <;> intro C16 F7
 refine s_mv ?_
 refine s_eq ?_
 refine zz ?_
 refine s_mv ?_
 refine zp _ 54 F7 ?_ ?_ <;> intro C17 F8
 refine s_fa zbQ ?_
 refine zv yA9 ?_
 refine s_fa zbQ ?_
 refine zv yA9 ?_
 refine zf1 ?_
 refine zz ?_
 refine zy ?_
 refine s_as ?_
 refine zf (zd (zh (zm ?_)))
 cases F8
 exact zk [] [] Tryz.results59
 iterate 5 refine r_no rfl ?_
 refine zy ?_
 refine zy ?_
 refine s_as ?_
 refine zf (zd (zh (zm ?_)))
 cases F8
 exact zk [] [] Tryz.results59
 refine r_no rfl (r_no rfl ?_)
 refine zy ?_
 refine s_mv ?_
 iterate 5 refine r_no rfl ?_
 refine zy ?_
 refine zy ?_
 refine s_as ?_
 refine zf (zd (zh (zm ?_)))
 cases F7
 exact zk [] [] Tryz.results59
 refine r_no rfl (r_no rfl ?_)
 refine zy ?_
 refine s_mv ?_
 iterate 3 refine r_no rfl ?_
 refine zy ?_
 refine s_mv ?_
 refine s_mv ?_
 refine s_eq ?_
 refine s_mv ?_
 refine zp _ 50 F5 ?_ ?_ <;> intro C18 F6
 refine s_mv ?_
 refine s_eq ?_
 refine zz ?_
 refine s_mv ?_
 refine zp _ 54 F6 ?_ ?_ <;> intro C19 F7
 refine s_fa zbQ ?_
 refine zv yA9 ?_
 refine s_fa zbQ ?_
 refine zv yA9 ?_
 refine zf1 ?_
 refine zz ?_
 refine zy ?_
 refine s_as ?_
 refine zf (zd (zh (zm ?_)))
 cases F7
 exact zk [] [] Tryz.results59
 iterate 5 refine r_no rfl ?_
 refine zy ?_
 refine zy ?_
 refine s_as ?_
 refine zf (zd (zh (zm ?_)))
 cases F7
 exact zk [] [] Tryz.results59
 refine r_no rfl (r_no rfl ?_)
 refine zy ?_
 refine s_mv ?_
 iterate 5 refine r_no rfl ?_
 refine zy ?_
 refine zy ?_
 refine s_as ?_
 refine zf (zd (zh (zm ?_)))
 cases F6
 exact zk [] [] Tryz.results59
def m_slices_Clone_int_AC (fuel : Nat) : Prop := ∀ (x1 : (List Int)) (r : (List Int)), zcA fuel x1 = some r → AC Tryz.prog 112 [.t (.sl (x1.map rI))] (objs []) (.ar 9200) (objs [(9200, .arr (r.map rI) 3 true)])
theorem zf5 (fuel : Nat) : m_slices_Clone_int_AC fuel := by
 intro x1 r F0
 unfold zcA at F0
 refine AC_i [.ar 9200] Tryz.func112 rfl Tryz.ntmps112 ?_
 intro C hC
 refine awp_nil 0 (fun hz => ?_) ?_
 replace hz := List.map_eq_nil_iff.mp hz; subst hz; obtain ⟨_, F1⟩ := zai F0
 refine zb (za ?_)
 refine s_as ?_
 refine zf (zd (zb (zb (za ?_))))
 refine s_mv ?_
 refine s_nil yU24 ?_
 refine zf (zd (zM rfl ?_))
 refine awp_unnil 0 ?_
 refine awp_unnil 3 ?_
 refine zb (za ?_)
 refine s_as ?_
 refine zf (zd ?_)
 refine awp_own 2 9200 3 yI3.choose_spec ?_
 refine zh (zg (zm ?_))
 cases F1
 exact zk _ [] Tryz.results112
 refine zb (za ?_)
 refine s_as ?_
 refine zf (zd (zb (zb (za ?_))))
 refine s_mv ?_
 refine s_nil yU24 ?_
 refine zf (zd (zbn rfl ?_))
 refine awp_unnil 0 ?_
 refine awp_unnil 3 ?_
 refine zi (zd (zb (za ?_)))
 refine s_bs rI ([] : List Int) yP24 yR3 ?_
 refine s_mv ?_
 obtain ⟨hk1, F1⟩ := zai F0
 refine zfo rI (fun _ => rfl) hk1 yP24 ?_
 refine s_as ?_
 refine zf (zd ?_)
 refine zcy 2 7 9200 (by conv => lhs; whnf) (by conv => lhs; whnf) rfl ?_
 refine zh (zm ?_)
 cases F1
 exact zk _ [] Tryz.results112
def zek (fuel : Nat) : Prop := ∀ (x1 : Form) (r : Form), zaQ fuel x1 = some r → AC Tryz.prog 60 [.ag [.t (.sc (.int .i64 x1.kind)), .t (.sc (.str x1.name)), .t (.sc (.int .i64 x1.n)), .t (.sl (x1.scopes.map rI)), .t (.sl (x1.kids.map Form.row))]] noOb (.ag [.t (.sc (.int .i64 r.kind)), .t (.sc (.str r.name)), .t (.sc (.int .i64 r.n)), .t (.sl (r.scopes.map rI)), .t (.sl (r.kids.map Form.row))]) noOb
theorem m_impl_copyForm_st (fu : Nat) (ih_m_impl_copyForm : ∀ k, k ≤ fu → zek k) : zek (fu + 1) := by
 intro x1 r F0
 rw [zaQ] at F0
 refine AC_i [.ag [.t (.sc (.int .i64 r.kind)), .t (.sc (.str r.name)), .t (.sc (.int .i64 r.n)), .t (.sl (r.scopes.map rI)), .t (.sl (r.kids.map Form.row))]] Tryz.func60 rfl Tryz.ntmps60 ?_
 intro C hC
 refine zb (za ?_)
 refine zbz ?_
 refine zY yZ27 ?_
 refine zf (zd (zb ?_))
 refine zW yMix (by kernel_rfl) ?_
 refine s_fa zdF ?_
 refine zv yA3 ?_
 refine s_fa zbQ ?_
 refine zv yA9 ?_
 refine s_fa zgf ?_
 refine zv yA3 ?_
 refine s_fa zeQ ?_
 refine zv yA24 ?_
 obtain ⟨v1, V1, F1⟩ := zc F0
 refine zN [(9200, 2014)] [] _ _ (zf5 fu _ _ V1) ?_
 refine zgz yZ27 yL27 ?_
 refine zY yZ27 ?_
 refine zap yS27 ?_
 refine zaA (by kernel_rfl) ?_
 refine zd (zb (zb (za ?_)))
 refine s_fa zR ?_
 refine zv yA25 ?_
 refine zD yU25 ?_
 refine s_mv ?_
 refine zf (zd (zl ?_))
 refine awp_ownB 3 5020 27 [.t (.sc (.int .i64 x1.kind)), .t (.sc (.str x1.name)), .t (.sc (.int .i64 x1.n)), .ar 2014, .ar 5020] yI27.choose_spec ?_
 refine zax [5, 19, 20, 21, 22, 23, 24, 25, 26, 27, 28, 29, 30] [3, 5020] [5, 27, 28] [5020] (fun a : Nat × Int × (List Form) => a.1) (fun a : Nat × Int × (List Form) => [(19, .t (.sc (.int .i64 a.2.1)))]) (fun a : Nat × Int × (List Form) => [(3, .box [.t (.sc (.int .i64 x1.kind)), .t (.sc (.str x1.name)), .t (.sc (.int .i64 x1.n)), .ar 2014, .ar 5020]), (5020, .arr (a.2.2.map Form.row) 27 true)]) (fun a : Nat × Int × (List Form) => a.1 ≤ fu ∧ zbV a.1 x1 v1 a.2.1 a.2.2 = some r ∧ 0 ≤ a.2.1) (fu, 0, ([] : List Form)) ⟨Nat.le_refl _, F1, by simp⟩ (by rfl) (by rfl) (fun _ => rfl) (zL (by conv => lhs; whnf) (by rfl) zbx) (zP (by conv => lhs; whnf) (by rfl) (zP (by conv => lhs; whnf) (by rfl) zbm)) (zcx hC rfl) (by repeat (first | exact zak rfl | refine zaG rfl ?_ | refine zZ rfl ?_)) (by repeat (first | exact za3 | exact zas rfl | refine zaH rfl ?_ | refine z6 rfl ?_)) ?_
 clear F1
 rintro ⟨fu, g2, g3⟩ ⟨hl4, F2, hn_g2⟩
 dsimp only at hl4 F2 hn_g2 ⊢
 obtain _ | fu := fu
 · rw [zbV] at F2; cases F2
 rw [zbV] at F2
 refine zb (za ?_)
 refine s_lt ?_
 refine zf (zd (zb ?_))
 refine zo F2 ?_ ?_ <;> intro C5 F3
 refine zT 17 (fun B6 => ?_)
 refine zi (zd (zb (zl (zb (za ?_)))))
 obtain ⟨v7, V7, F4⟩ := zc F3
 refine z7 Form.row V7 (Form.row_eq _) yE25 ?_
 refine za1 yA27 yS27 ?_
 refine zY yZ27 ?_
 refine zap yS27 ?_
 refine zf (zd ?_)
 refine zW yMix (by kernel_rfl) ?_
 refine s_fa zR ?_
 refine zv yA25 ?_
 refine zI yA27 yS27 ?_
 obtain ⟨v8, V8, F5⟩ := zc F4
 refine zx [] (ih_m_impl_copyForm fu (by omega) _ _ V8) ?_
 refine s_bs Form.row [v8] yP25 yR27 ?_
 obtain ⟨hk9, F6⟩ := zai F5
 refine zfo Form.row (fun y => Form.row_len y) hk9 yP25 ?_
 refine s_fa zR ?_
 refine s_stP yS25 ?_
 refine zaA (by kernel_rfl) ?_
 refine zX (zd (za ?_))
 refine zQ (zbg C5 B6 hn_g2) ?_
 refine s_mv ?_
 refine zf ?_
 exact s_rn (fu, (g2 + 1), (g3 ++ [v8])) ⟨by first | omega | (dsimp only; omega), F6, by first | omega | (dsimp only; omega)⟩ [(5020, 28)]
 refine zC (zr (zq (zu (zd (zb (za ?_))))))
 refine zI yA27 yS27 ?_
 refine zap yS27 ?_
 refine zf (zd (zh (zm ?_)))
 cases F3
 exact zag [] [2014, 5020] (by rw [Tryz.results60]; exact (zal (by conv => lhs; whnf) (by conv => lhs; whnf) yA27 yS27 rfl zaq))
theorem m_impl_copyForm_all (fuel : Nat) : zek fuel := by
 induction fuel using Nat.strongRecOn with
 | _ N ih =>
   cases N with
   | zero => exact (by intro x1 r h; rw [zaQ] at h; cases h)
   | succ fu => exact m_impl_copyForm_st fu (fun k hk => (ih k (by omega)))
theorem zcB (fuel : Nat) : zek fuel := (m_impl_copyForm_all fuel)
def zev (fuel : Nat) : Prop := ∀ (x1 : (List Bind)) (x2 : Form) (x3 : (List Form)) (x4 : Form) (r : ((List Hit) × Bool)), zdg fuel x1 x2 x3 x4 = some r → AC Tryz.prog 21 [.t (.sl (x1.map Bind.row)), .ag [.t (.sc (.int .i64 x2.kind)), .t (.sc (.str x2.name)), .t (.sc (.int .i64 x2.n)), .t (.sl (x2.scopes.map rI)), .t (.sl (x2.kids.map Form.row))], .t (.sl (x3.map Form.row)), .ag [.t (.sc (.int .i64 x4.kind)), .t (.sc (.str x4.name)), .t (.sc (.int .i64 x4.n)), .t (.sl (x4.scopes.map rI)), .t (.sl (x4.kids.map Form.row))]] noOb (.tp [.t (.sl (r.1.map Hit.row)), .t (.sc (.bool r.2))]) noOb
def zeL (fuel : Nat) : Prop := ∀ (x1 : Form) (x2 : Form) (o1 : (List Bind)) (o2 : (List Form)) (o3 : (List Hit)) (r : (Bool × (List Hit))), zcR fuel x1 x2 o1 o2 o3 = some r → AC Tryz.prog 61 [.ag [.t (.sc (.int .i64 x1.kind)), .t (.sc (.str x1.name)), .t (.sc (.int .i64 x1.n)), .t (.sl (x1.scopes.map rI)), .t (.sl (x1.kids.map Form.row))], .ag [.t (.sc (.int .i64 x2.kind)), .t (.sc (.str x2.name)), .t (.sc (.int .i64 x2.n)), .t (.sl (x2.scopes.map rI)), .t (.sl (x2.kids.map Form.row))], .rf 9000 0, .rf 9001 0, .rf 9002 0] (objs [(9000, .box [.t (.sl (o1.map Bind.row))]), (9001, .box [.t (.sl (o2.map Form.row))]), (9002, .box [.ar 9460]), (9460, .arr (o3.map Hit.row) 38 true)]) (.t (.sc (.bool r.1))) (objs [(9000, .box [.t (.sl (o1.map Bind.row))]), (9001, .box [.t (.sl (o2.map Form.row))]), (9002, .box [.ar 10460]), (9460, .dead), (10460, .arr (r.2.map Hit.row) 38 true)])
theorem m_impl_match_st (fu : Nat) (ih_m_impl_match : ∀ k, k ≤ fu → zev k) (ih_m_impl_match_1 : ∀ k, k ≤ fu → zeL k) : zev (fu + 1) := by
 intro x1 x2 x3 x4 r F0
 rw [zdg] at F0
 refine AC_i [.t (.sl (r.1.map Hit.row)), .t (.sc (.bool r.2))] Tryz.func21 rfl Tryz.ntmps21 ?_
 intro C hC
 refine zb (za ?_)
 iterate 4 refine zbz ?_
 refine s_as ?_
 refine s_as ?_
 refine zf (zd (zb (zb (za ?_))))
 refine s_fa zdF ?_
 refine zv yA3 ?_
 refine zf (zd (zl (zb (za ?_))))
 refine s_eq ?_
 refine s_as ?_
 refine zf (zd ?_)
 refine zo F0 ?_ ?_ <;> intro C1 F1
 refine zb (zl (zb (za ?_)))
 refine s_fa zbQ ?_
 refine zv yA9 ?_
 refine zf1 ?_
 refine s_as ?_
 refine zf (zd ?_)
 refine zo F1 ?_ ?_ <;> intro C2 F2
 refine zb (za ?_)
 refine s_as ?_
 refine s_as ?_
 refine zf (zd (zh (zj (zg (zj (zg (zm ?_)))))))
 cases F2
 exact zk [] [] Tryz.results21
 refine zb (za ?_)
 refine zv yA25 ?_
 refine zI yA27 yS27 ?_
 obtain ⟨v3, V3, F3⟩ := zc F2
 refine zx [] (zf0 fu _ _ _ V3) ?_
 refine s_as ?_
 refine zf (zd ?_)
 refine zo F3 ?_ ?_ <;> intro C4 F4
 refine zb (za ?_)
 refine zv yA23 ?_
 refine zI yA27 yS27 ?_
 refine zI yA27 yS27 ?_
 obtain ⟨v5, V5, F5⟩ := zc F4
 refine zx [] (zhf fu _ _ _ _ V5) ?_
 refine s_as ?_
 refine s_as ?_
 refine zf (zd (zh (zj (zg (zj (zg (zm ?_)))))))
 cases F5
 exact zk [] [] Tryz.results21
 refine zi (zX (zd (zb ?_)))
 refine zW yMix (by kernel_rfl) ?_
 refine zI yA27 yS27 ?_
 obtain ⟨v6, V6, F5⟩ := zc F4
 refine zx [] (zcB fu _ _ V6) ?_
 refine zI yA27 yS27 ?_
 obtain ⟨v7, V7, F6⟩ := zc F5
 refine zx [] (zcB fu _ _ V7) ?_
 refine zgz yZ38 yL38 ?_
 refine s_bs Hit.row [(Hit.mk v6 0 v7 ([] : List Hit))] yP30 yR38 ?_
 refine s_as ?_
 refine s_as ?_
 refine zaA (by kernel_rfl) ?_
 refine zd (zh (zj (zg (zm ?_))))
 cases F6
 exact zk [] [49] Tryz.results21
 refine zb (za ?_)
 refine s_eq ?_
 refine s_as ?_
 refine zf (zd ?_)
 refine zo F1 ?_ ?_ <;> intro C8 F2
 refine zb (za ?_)
 refine zI yA27 yS27 ?_
 refine zI yA27 yS27 ?_
 obtain ⟨v9, V9, F3⟩ := zc F2
 refine zx [] (zbW fu _ _ _ V9) ?_
 refine s_as ?_
 refine s_as ?_
 refine zf (zd (zh (zj (zg (zm ?_)))))
 cases F3
 exact zk [] [] Tryz.results21
 refine zi (zX (zd (zb (zb (za ?_)))))
 refine s_fa zdF ?_
 refine zv yA3 ?_
 refine s_ne ?_
 refine zf (zd ?_)
 refine zo F2 ?_ ?_ <;> intro C10 F3
 refine zb (za ?_)
 refine s_as ?_
 refine s_as ?_
 refine zf (zd (zh (zg (zm ?_))))
 cases F3
 exact zk [] [] Tryz.results21
 refine zi (zd (zb (za ?_)))
 refine s_bs Hit.row ([] : List Hit) yP30 yR38 ?_
 refine zY yZ30 ?_
 refine zap yS30 ?_
 refine zf (zd (zb (za ?_)))
 refine s_fn ?_
 refine s_as ?_
 refine zf (zd (zb (za ?_)))
 refine s_fa zR ?_
 refine zv yA25 ?_
 obtain ⟨v11, V11, F4⟩ := zc F3
 refine zx [] (m_impl_dotsAt_ok fu _ _ V11) ?_
 refine s_as ?_
 refine zf (zd (zb (zb (za ?_))))
 refine s_mv ?_
 refine s_lt ?_
 refine zf (zd ?_)
 refine zo F4 ?_ ?_ <;> intro C12 F5
 refine zb (zb (za ?_))
 refine s_fa zR ?_
 refine zv yA25 ?_
 refine zD yU25 ?_
 refine s_fa zR ?_
 refine zv yA25 ?_
 refine zD yU25 ?_
 refine s_ne ?_
 refine zf (zd ?_)
 refine zo F5 ?_ ?_ <;> intro C13 F6
 refine zb (za ?_)
 refine s_as ?_
 refine s_as ?_
 refine zf (zd (zh (zg (zg (zm ?_)))))
 cases F6
 exact zk [] [] Tryz.results21
 refine zi (zd ?_)
 refine zbY (α := Nat × (List Hit)) [8, 9, 13, 72, 73, 74, 75, 76, 77, 78, 79, 80, 81, 82, 83, 84, 85, 86, 87, 88, 89, 90, 91] [10, 58, 5040] [] (fun a => []) (fun a => [(10, .box [.ar 5040]), (58, .dead), (5040, .arr (a.2.map Hit.row) 38 true)]) (fun a => a.1 ≤ fu ∧ zeu a.1  a.2 = some r) ?_ ?_
 refine zb (za ?_)
 refine s_fa zR ?_
 refine zv yA25 ?_
 refine zD yU25 ?_
 refine s_mv ?_
 refine zf (zd (zl ?_))
 refine zfJ 10 58 5040 [.ar 5040] ?_
 refine zax [8, 9, 13, 75, 76, 77, 78, 79, 80, 81, 82, 83, 84, 85, 86, 87, 88, 89, 90, 91] [10, 5040] [42089] [5040] (fun a : Nat × Int × (List Hit) => a.1) (fun a : Nat × Int × (List Hit) => [(75, .t (.sc (.int .i64 a.2.1)))]) (fun a : Nat × Int × (List Hit) => [(10, .box [.ar 5040]), (5040, .arr (a.2.2.map Hit.row) 38 true)]) (fun a : Nat × Int × (List Hit) => a.1 ≤ fu ∧ zct a.1 x1 x2 x3 x4 a.2.1 a.2.2 = some r ∧ 0 ≤ a.2.1) (fu, 0, ([] : List Hit)) ⟨Nat.le_refl _, F6, by simp⟩ (by rfl) (by rfl) (fun _ => rfl) (zL (by conv => lhs; whnf) (by rfl) zbx) (zP (by conv => lhs; whnf) (by rfl) (zP (by conv => lhs; whnf) (by rfl) zbm)) (zcx hC rfl) (by repeat (first | exact zak rfl | refine zaG rfl ?_ | refine zZ rfl ?_)) (by repeat (first | exact za3 | exact zas rfl | refine zaH rfl ?_ | refine z6 rfl ?_)) ?_
 clear F6
 rintro ⟨fu, g14, g15⟩ ⟨hl16, F7, hn_g14⟩
 dsimp only at hl16 F7 hn_g14 ⊢
 obtain _ | fu := fu
 · rw [zct] at F7; cases F7
 rw [zct] at F7
 refine zb (za ?_)
 refine s_lt ?_
 refine zf (zd (zb ?_))
 refine zo F7 ?_ ?_ <;> intro C17 F8
 refine zT 61 (fun B18 => ?_)
 refine zi (zd (zb (zl (zb (za ?_)))))
 refine s_mv ?_
 refine s_as ?_
 refine zf (zd (zb ?_))
 refine zW yMix (by kernel_rfl) ?_
 refine s_mv ?_
 refine s_fa zR ?_
 refine zv yA25 ?_
 refine s_mv ?_
 obtain ⟨v19, V19, F9⟩ := zc F8
 refine z7 Form.row V19 (Form.row_eq _) yE25 ?_
 refine za1 yA27 yS27 ?_
 refine s_fa zR ?_
 refine zv yA25 ?_
 refine s_mv ?_
 obtain ⟨v20, V20, F10⟩ := zc F9
 refine z7 Form.row V20 (Form.row_eq _) yE25 ?_
 refine za1 yA27 yS27 ?_
 obtain ⟨v21, V21, F11⟩ := zc F10
 refine zN [(9000, 4), (9001, 6), (9002, 10), (9460, 5040), (10460, 42089)] [] _ _ (ih_m_impl_match_1 fu (by omega) _ _ _ _ _ _ V21) ?_
 refine zby ?_
 refine zaA (by kernel_rfl) ?_
 refine zd ?_
 refine zo F11 ?_ ?_ <;> intro C22 F12
 refine zb (za ?_)
 refine s_as ?_
 refine s_as ?_
 refine zf (zd (zh (zj (zg (zw (zj (zfa (zg (zm ?_)))))))))
 cases F12
 exact zk [] [] Tryz.results21
 refine zi (zX (zd (za ?_)))
 refine zQ (zbg C17 B18 hn_g14) ?_
 refine s_mv ?_
 refine zf ?_
 exact s_rn (fu, (g14 + 1), v21.2) ⟨by first | omega | (dsimp only; omega), F12, by first | omega | (dsimp only; omega)⟩ [(5040, 42089)]
 refine zC (zr (zq (zu ?_)))
 exact s_jn (fu, g15) ⟨by first | omega | (dsimp only; omega), F8⟩
 clear F6
 rintro ⟨fu, g23⟩ ⟨hl24, F7⟩
 dsimp only at hl24 F7 ⊢
 obtain _ | fu := fu
 · rw [zeu] at F7; cases F7
 rw [zeu] at F7
 refine zb (za ?_)
 refine zv yA30 ?_
 refine s_as ?_
 refine s_as ?_
 refine zf (zd (zh (zg (zm ?_))))
 cases F7
 exact zk [] [5040] Tryz.results21
 refine zi (zd (zb (za ?_)))
 refine s_fa zR ?_
 refine zv yA25 ?_
 refine zD yU25 ?_
 refine s_fa zR ?_
 refine zv yA25 ?_
 refine zD yU25 ?_
 refine zgS rfl ?_
 refine zgS rfl ?_
 refine s_as ?_
 refine zf (zd (zb (zb (za ?_))))
 refine s_mv ?_
 refine s_lt ?_
 refine zf (zd ?_)
 refine zo F5 ?_ ?_ <;> intro C25 F6
 refine zb (za ?_)
 refine s_as ?_
 refine s_as ?_
 refine zf (zd (zh (zg (zm ?_))))
 cases F6
 exact zk [] [] Tryz.results21
 refine zi (zd (zb (za ?_)))
 refine s_mv ?_
 refine zgS rfl ?_
 refine s_as ?_
 refine zf (zd ?_)
 refine zbY (α := Nat × (List Hit)) [8, 9, 16, 105, 106, 107, 108, 109, 110, 111, 112, 113, 114, 115, 116, 117, 118, 119, 120, 121, 122] [10, 58, 5080] [] (fun a => []) (fun a => [(10, .box [.ar 5080]), (58, .dead), (5080, .arr (a.2.map Hit.row) 38 true)]) (fun a => a.1 ≤ fu ∧ zdx a.1 x1 x2 x3 x4 v11 a.2 = some r) ?_ ?_
 refine zb (za ?_)
 refine s_as ?_
 refine zf (zd (zl ?_))
 refine zfJ 10 58 5080 [.ar 5080] ?_
 refine zax [8, 9, 16, 105, 106, 107, 108, 109, 110, 111, 112, 113, 114, 115, 116, 117, 118, 119, 120, 121, 122] [10, 5080] [42121] [5080] (fun a : Nat × Int × (List Hit) => a.1) (fun a : Nat × Int × (List Hit) => [(16, .t (.sc (.int .i64 a.2.1)))]) (fun a : Nat × Int × (List Hit) => [(10, .box [.ar 5080]), (5080, .arr (a.2.2.map Hit.row) 38 true)]) (fun a : Nat × Int × (List Hit) => a.1 ≤ fu ∧ zcs a.1 x1 x2 x3 x4 v11 a.2.1 a.2.2 = some r) (fu, 0, ([] : List Hit)) ⟨Nat.le_refl _, F6⟩ (by rfl) (by rfl) (fun _ => rfl) (zL (by conv => lhs; whnf) (by rfl) zbx) (zP (by conv => lhs; whnf) (by rfl) (zP (by conv => lhs; whnf) (by rfl) zbm)) (zcx hC rfl) (by repeat (first | exact zak rfl | refine zaG rfl ?_ | refine zZ rfl ?_)) (by repeat (first | exact za3 | exact zas rfl | refine zaH rfl ?_ | refine z6 rfl ?_)) ?_
 clear F6
 rintro ⟨fu, g26, g27⟩ ⟨hl28, F7⟩
 dsimp only at hl28 F7 ⊢
 obtain _ | fu := fu
 · rw [zcs] at F7; cases F7
 rw [zcs] at F7
 refine zb (zb (za ?_))
 refine s_mv ?_
 refine s_mv ?_
 refine s_lt ?_
 refine zf (zd ?_)
 refine zo F7 ?_ ?_ <;> intro C29 F8
 refine zi (zd (zb (zl (zb ?_))))
 refine zW yMix (by kernel_rfl) ?_
 refine s_mv ?_
 refine s_fa zR ?_
 refine zv yA25 ?_
 refine s_mv ?_
 obtain ⟨v30, V30, F9⟩ := zc F8
 refine z7 Form.row V30 (Form.row_eq _) yE25 ?_
 refine za1 yA27 yS27 ?_
 refine s_fa zR ?_
 refine zv yA25 ?_
 refine s_mv ?_
 obtain ⟨v31, V31, F10⟩ := zc F9
 refine z7 Form.row V31 (Form.row_eq _) yE25 ?_
 refine za1 yA27 yS27 ?_
 obtain ⟨v32, V32, F11⟩ := zc F10
 refine zN [(9000, 4), (9001, 6), (9002, 10), (9460, 5080), (10460, 42121)] [] _ _ (ih_m_impl_match_1 fu (by omega) _ _ _ _ _ _ V32) ?_
 refine zby ?_
 refine zaA (by kernel_rfl) ?_
 refine zd ?_
 refine zo F11 ?_ ?_ <;> intro C33 F12
 refine zb (za ?_)
 refine s_as ?_
 refine s_as ?_
 refine zf (zd (zh (zj (zg (zw (zj (zfa (zm ?_))))))))
 cases F12
 exact zk [] [] Tryz.results21
 refine zi (zX (zd (za ?_)))
 refine s_mv ?_
 refine zQ rfl ?_
 refine s_as ?_
 refine zf ?_
 exact s_rn (fu, (w64 (g26 + 1)), v32.2) ⟨by first | omega | (dsimp only; omega), F12⟩ [(5080, 42121)]
 refine zC (zr (zq (zu ?_)))
 exact s_jn (fu, g27) ⟨by first | omega | (dsimp only; omega), F8⟩
 clear F6
 rintro ⟨fu, g34⟩ ⟨hl35, F7⟩
 dsimp only at hl35 F7 ⊢
 obtain _ | fu := fu
 · rw [zdx] at F7; cases F7
 rw [zdx] at F7
 refine zb ?_
 refine zW yMix (by kernel_rfl) ?_
 refine s_fa zR ?_
 refine zv yA25 ?_
 refine s_mv ?_
 obtain ⟨v36, V36, F8⟩ := zc F7
 refine z7 Form.row V36 (Form.row_eq _) yE25 ?_
 refine za1 yA27 yS27 ?_
 refine zv yA25 ?_
 obtain ⟨v37, V37, F9⟩ := zc F8
 refine zN [(9200, 2130)] [] _ _ (m_impl_varsOf_ok fu _ _ _ V37) ?_
 refine s_mv ?_
 refine zbP ?_
 refine zbP ?_
 refine s_as ?_
 refine s_as ?_
 refine zaA (by kernel_rfl) ?_
 refine zd (zb (za ?_))
 refine s_bs Hit.row ([] : List Hit) yP30 yR38 ?_
 refine s_as ?_
 refine zf (zd ?_)
 refine awp_toD 133 (Hit.rowO 38) (es := ([] : List Hit).map Hit.row) (by conv => lhs; whnf) rfl ?_
 refine zbY (α := Nat × (List Hit)) [19, 20, 21, 134, 135, 136, 137, 138, 139, 140, 141, 142, 143, 144, 145, 146, 147, 148, 149, 150, 151, 152] [133, 5120] [] (fun a => [(19, .ar 5120)]) (fun a => [(133, .dead), (5120, .dar (a.2.map (Hit.rowO 38)) 38)]) (fun a => a.1 ≤ fu ∧ zdw a.1 x1 x2 x3 x4 v11 g34 a.2 = some r) ?_ ?_
 refine zb (za ?_)
 refine s_mv ?_
 refine zgq yU25 ?_
 refine s_mv ?_
 refine zf (zd (zl ?_))
 refine awp_mvD 19 133 5120 (by conv => lhs; whnf) (by conv => lhs; whnf) rfl ?_
 refine zax [19, 20, 21, 136, 137, 138, 139, 140, 141, 142, 143, 144, 145, 146, 147, 148, 149, 150, 151, 152] [5120] [21, 150, 151] [5120] (fun a : Nat × (List Hit) × Int => a.1) (fun a : Nat × (List Hit) × Int => [(19, .ar 5120), (136, .t (.sc (.int .i64 a.2.2)))]) (fun a : Nat × (List Hit) × Int => [(5120, .dar (a.2.1.map (Hit.rowO 38)) 38)]) (fun a : Nat × (List Hit) × Int => a.1 ≤ fu ∧ zbU a.1 x1 x2 x3 x4 v11 g34 v37 a.2.1 a.2.2 = some r ∧ 0 ≤ a.2.2) (fu, ([] : List Hit), 0) ⟨Nat.le_refl _, F9, by simp⟩ (by rfl) (by rfl) (fun _ => rfl) (zL (by conv => lhs; whnf) (by rfl) (zL (by conv => lhs; whnf) (by rfl) zbx)) (zP (by conv => lhs; whnf) (by rfl) zbm) (zcx hC rfl) (by repeat (first | exact zak rfl | refine zaG rfl ?_ | refine zZ rfl ?_)) (by repeat (first | exact za3 | exact zas rfl | refine zaH rfl ?_ | refine z6 rfl ?_)) ?_
 clear F9
 rintro ⟨fu, g38, g39⟩ ⟨hl40, F10, hn_g39⟩
 dsimp only at hl40 F10 hn_g39 ⊢
 obtain _ | fu := fu
 · rw [zbU] at F10; cases F10
 rw [zbU] at F10
 refine zb (za ?_)
 refine s_lt ?_
 refine zf (zd (zb ?_))
 refine zo F10 ?_ ?_ <;> intro C41 F11
 refine awp_lenA 17 2130 (fun B42 => ?_)
 refine zi (zd (zb (zl (zb (za ?_)))))
 refine s_mv ?_
 obtain ⟨v43, V43, F12⟩ := zc F11
 refine s_ixA Form.row V43 yE25 ?_
 refine s_lAN Form.row V43 (Form.row_eq _) yA27 yS27 ?_
 refine zY yZ27 ?_
 refine s_as ?_
 refine zap yS27 ?_
 refine zf (zd ?_)
 refine zW yMix (by kernel_rfl) ?_
 refine zfK ?_
 refine zI yA27 yS27 ?_
 obtain ⟨v44, V44, F13⟩ := zc F12
 refine zx [] (zcB fu _ _ V44) ?_
 refine s_mv ?_
 refine s_mv ?_
 obtain ⟨v45, V45, F14⟩ := zc F13
 refine z7 rI V45 rfl yE24 ?_
 refine zv yA3 ?_
 refine zQ rfl ?_
 refine s_bldN 11 38 yZ38 yL38 ?_
 refine s_bs (Hit.rowN 38) [(Hit.mk v44 (w64 (v45 + 1)) (Form.mk 0 (⟨#[]⟩ : ByteArray) 0 ([] : List Int) ([] : List Form)) ([] : List Hit))] yP30 yR38 ?_
 obtain ⟨hk46, F15⟩ := zai F14
 refine s_apD (Hit.rowO 38) (Hit.rowN 38) (Hit.rowN_nis yS38) (fun _ => rfl) rfl hk46 yP30 ?_
 refine s_as ?_
 refine zaA (by kernel_rfl) ?_
 refine zX (zd (za ?_))
 refine zQ (zbg C41 B42 hn_g39) ?_
 refine s_mv ?_
 refine zf ?_
 exact s_rn (fu, (g38 ++ [(Hit.mk v44 (w64 (v45 + 1)) (Form.mk 0 (⟨#[]⟩ : ByteArray) 0 ([] : List Int) ([] : List Form)) ([] : List Hit))]), (g39 + 1)) ⟨by first | omega | (dsimp only; omega), F15, by first | omega | (dsimp only; omega)⟩ [(5120, 151)]
 refine zC (zr (zq (zu ?_)))
 exact s_jn (fu, g38) ⟨by first | omega | (dsimp only; omega), F11⟩
 clear F9
 rintro ⟨fu, g47⟩ ⟨hl48, F10⟩
 dsimp only at hl48 F10 ⊢
 obtain _ | fu := fu
 · rw [zdw] at F10; cases F10
 rw [zdw] at F10
 refine zbY (α := Nat × (List Hit)) [8, 9, 23, 24, 25, 26, 153, 154, 155, 156, 157, 158, 159, 160, 161, 162, 163, 164, 165, 166, 167, 168, 169, 170, 171, 172, 173, 174, 175, 176, 177, 178, 179, 180, 181, 182, 183, 184, 185, 186, 187, 188, 189, 190, 191, 192, 193, 194, 195, 196, 197, 198, 199, 200] [5120] [] (fun a => []) (fun a => [(5120, .dar (a.2.map (Hit.rowO 38)) 38)]) (fun a => a.1 ≤ fu ∧ zcY a.1 x1 x2 x3 x4 v11 g34 a.2 = some r) ?_ ?_
 refine zb (za ?_)
 refine s_fa zR ?_
 refine zv yA25 ?_
 iterate 3 refine s_mv ?_
 refine zQ rfl ?_
 obtain ⟨v49, V49, F11⟩ := zc F10
 refine s_sl11 Form.row (fun y => Form.row_len y) V49 yU25 yE25 ?_
 refine zD yU25 ?_
 refine s_mv ?_
 refine zf (zd (zl ?_))
 refine zbu (β := Int × (List Hit)) [8, 9, 23, 24, 25, 26, 161, 162, 163, 164, 165, 166, 167, 168, 169, 170, 171, 172, 173, 174, 175, 176, 177, 178, 179, 180, 181, 182, 183, 184, 185, 186, 187, 188, 189, 190, 191, 192, 193, 194, 195, 196, 197, 198, 199, 200] [5120] [23] (fun a => [(161, .t (.sc (.int .i64 a.2.1)))]) (fun a => [(5120, .dar (a.2.2.map (Hit.rowO 38)) 38)]) (fun a => a.1 ≤ fu ∧ zbH a.1 x1 x2 x3 x4 v11 g34 v49 a.2.1 a.2.2 = some r) (fu, 0, g47) ⟨Nat.le_refl _, F11⟩ ?_
 clear F11
 rintro ⟨fu, g50, g51⟩ ⟨hl52, F12⟩
 dsimp only at hl52 F12 ⊢
 obtain _ | fu := fu
 · rw [zbH] at F12; cases F12
 rw [zbH] at F12
 refine zb (za ?_)
 refine s_lt ?_
 refine zf (zd (zb ?_))
 refine zo F12 ?_ ?_ <;> intro C53 F13
 refine zT 159 (fun B54 => ?_)
 refine zi (zd (zb (zl (zb (za ?_)))))
 obtain ⟨v55, V55, F14⟩ := zc F13
 refine z7 Form.row V55 (Form.row_eq _) yE25 ?_
 refine za1 yA27 yS27 ?_
 refine zY yZ27 ?_
 refine zap yS27 ?_
 refine zf (zd (zb ?_))
 refine zW yMix (by kernel_rfl) ?_
 refine zv yA23 ?_
 refine s_fa zR ?_
 refine zv yA25 ?_
 refine s_mv ?_
 obtain ⟨v56, V56, F15⟩ := zc F14
 refine z7 Form.row V56 (Form.row_eq _) yE25 ?_
 refine za1 yA27 yS27 ?_
 refine zv yA25 ?_
 refine zI yA27 yS27 ?_
 obtain ⟨v57, V57, F16⟩ := zc F15
 refine zx [] (ih_m_impl_match fu (by omega) _ _ _ _ _ V57) ?_
 refine s_mv ?_
 refine zbP ?_
 refine zbP ?_
 refine s_as ?_
 refine s_as ?_
 refine zaA (by kernel_rfl) ?_
 refine zd (zb (zb (za ?_)))
 refine s_mv ?_
 refine zby ?_
 refine zf (zd ?_)
 refine zo F16 ?_ ?_ <;> intro C58 F17
 refine zb (za ?_)
 refine s_as ?_
 refine s_as ?_
 refine zf (zd (zh (zg (zj (zg (zw (zj (zfa (zm ?_)))))))))
 cases F17
 exact zk [] [] Tryz.results21
 refine zi (zd (zb (za ?_)))
 refine s_mv ?_
 refine s_lenD yU30 ?_
 refine s_mv ?_
 refine zf (zd (zl ?_))
 refine zbu (β := Int × (List Hit)) [26, 181, 182, 183, 184, 185, 186, 187, 188, 189, 190, 191, 192, 193, 194, 195, 196, 197, 198, 199] [5120] [188, 194, 195] (fun a => [(181, .t (.sc (.int .i64 a.2.1)))]) (fun a => [(5120, .dar (a.2.2.map (Hit.rowO 38)) 38)]) (fun a => a.1 ≤ fu ∧ zbT a.1 x1 x2 x3 x4 v11 g34 v49 g50 g51 v57 a.2.1 a.2.2 = some r) (fu, 0, g51) ⟨Nat.le_refl _, F17⟩ ?_
 clear F17
 rintro ⟨fu, g59, g60⟩ ⟨hl61, F18⟩
 dsimp only at hl61 F18 ⊢
 obtain _ | fu := fu
 · rw [zbT] at F18; cases F18
 rw [zbT] at F18
 refine zb (za ?_)
 refine s_lt ?_
 refine zf (zd (zb ?_))
 refine zo F18 ?_ ?_ <;> intro C62 F19
 refine zi (zd (zb (zl (zb (za ?_)))))
 refine s_mv ?_
 refine s_as ?_
 refine zf (zd ?_)
 refine zW yMix (by kernel_rfl) ?_
 refine zfK ?_
 refine s_mv ?_
 obtain ⟨v63, V63, F20⟩ := zc F19
 refine s_ixD (Hit.rowO 38) V63 yE30 ?_
 refine s_fa zgo ?_
 refine s_ldD (Hit.rowO 38) Hit.row v63.many Hit.row_plain V63 yA30 yS38 ?_
 refine s_mv ?_
 refine s_mv ?_
 obtain ⟨v64, V64, F21⟩ := zc F20
 refine z7 Hit.row V64 (Hit.row_eq _) yE30 ?_
 refine za1 yA38 yS38 ?_
 refine zgq yU30 ?_
 refine s_bs Hit.row [(Hit.mk (Form.mk 0 (⟨#[]⟩ : ByteArray) 0 ([] : List Int) ([] : List Form)) 0 (Form.mk 0 (⟨#[]⟩ : ByteArray) 0 ([] : List Int) ([] : List Form)) ([] : List Hit))] yP30 yR38 ?_
 obtain ⟨hk65, F22⟩ := zai F21
 refine zfo Hit.row (fun y => Hit.row_len y) hk65 yP30 ?_
 obtain ⟨v66, V66, F23⟩ := zc F22
 refine s_ixA Hit.row V66 yE30 ?_
 refine s_stA Hit.row v64 V66 (Hit.row_eq _) (Hit.row_eq _) yS38 yS38 ?_
 obtain ⟨v67, V67, F24⟩ := zc F23
 refine s_ixH (Hit.rowO 38) V67 yE30 ?_
 refine s_fa zgo ?_
 refine s_stD (Hit.rowO 38) V63 yS30 yS38 ?_
 refine zaA (by kernel_rfl) ?_
 refine zX (zd ?_)
 refine awp_jnD 5120 195 12 (Hit.rowO 38) Hit.row (Hit.mk v63.name v63.depth v63.one ((v63.many ++ [(Hit.mk (Form.mk 0 (⟨#[]⟩ : ByteArray) 0 ([] : List Int) ([] : List Form)) 0 (Form.mk 0 (⟨#[]⟩ : ByteArray) 0 ([] : List Int) ([] : List Form)) ([] : List Hit))]).set (v63.many.length : Int).toNat v64)) ((v63.many ++ [(Hit.mk (Form.mk 0 (⟨#[]⟩ : ByteArray) 0 ([] : List Int) ([] : List Form)) 0 (Form.mk 0 (⟨#[]⟩ : ByteArray) 0 ([] : List Int) ([] : List Form)) ([] : List Hit))]).set (v63.many.length : Int).toNat v64) V63 rfl ?_
 refine za ?_
 refine zQ rfl ?_
 refine s_mv ?_
 refine zf ?_
 exact s_rn (fu, (w64 (g59 + 1)), (g60.set g59.toNat (Hit.mk v63.name v63.depth v63.one ((v63.many ++ [(Hit.mk (Form.mk 0 (⟨#[]⟩ : ByteArray) 0 ([] : List Int) ([] : List Form)) 0 (Form.mk 0 (⟨#[]⟩ : ByteArray) 0 ([] : List Int) ([] : List Form)) ([] : List Hit))]).set (v63.many.length : Int).toNat v64)))) ⟨by first | omega | (dsimp only; omega), F24⟩
 refine zC (zr (zq (zu (zX (zd (za ?_))))))
 refine zQ rfl ?_
 refine s_mv ?_
 refine zf ?_
 exact s_rn (fu, (w64 (g50 + 1)), g60) ⟨by first | omega | (dsimp only; omega), F19⟩
 refine zC (zr (zq (zu ?_)))
 exact s_jn (fu, g51) ⟨by first | omega | (dsimp only; omega), F13⟩
 clear F10
 rintro ⟨fu, g68⟩ ⟨hl69, F11⟩
 dsimp only at hl69 F11 ⊢
 obtain _ | fu := fu
 · rw [zcY] at F11; cases F11
 rw [zcY] at F11
 refine zb ?_
 refine awp_fzD 5120 Hit.row (Hit.rowO 38) (Hit.rowO_fzB 38) (Hit.rowO_fzT 38) (by conv => lhs; whnf) ?_
 refine za ?_
 refine zv yA30 ?_
 refine s_mv ?_
 obtain ⟨hk70, F12⟩ := zai F11
 refine zfo Hit.row (fun y => Hit.row_len y) hk70 yP30 ?_
 refine zap yS30 ?_
 refine zf (zd (zb (zb (za ?_))))
 refine s_mv ?_
 refine zQ rfl ?_
 refine s_as ?_
 refine zf (zd (zl ?_))
 refine zfJ 10 203 5200 [.ar 5200] ?_
 refine zax [8, 9, 27, 206, 207, 208, 209, 210, 211, 212, 213, 214, 215, 216, 217, 218, 219, 220, 221, 222, 223, 224, 225, 226, 227, 228, 229, 230, 231, 232] [10, 5200] [42231] [5200] (fun a : Nat × Int × (List Hit) => a.1) (fun a : Nat × Int × (List Hit) => [(27, .t (.sc (.int .i64 a.2.1)))]) (fun a : Nat × Int × (List Hit) => [(10, .box [.ar 5200]), (5200, .arr (a.2.2.map Hit.row) 38 true)]) (fun a : Nat × Int × (List Hit) => a.1 ≤ fu ∧ zb5 a.1 x1 x2 x3 x4 v11 a.2.1 a.2.2 = some r) (fu, (w64 (v11 + 1)), (g34 ++ g68)) ⟨Nat.le_refl _, F12⟩ (by rfl) (by rfl) (fun _ => rfl) (zL (by conv => lhs; whnf) (by rfl) zbx) (zP (by conv => lhs; whnf) (by rfl) (zP (by conv => lhs; whnf) (by rfl) zbm)) (zcx hC rfl) (by repeat (first | exact zak rfl | refine zaG rfl ?_ | refine zZ rfl ?_)) (by repeat (first | exact za3 | exact zas rfl | refine zaH rfl ?_ | refine z6 rfl ?_)) ?_
 clear F12
 rintro ⟨fu, g71, g72⟩ ⟨hl73, F13⟩
 dsimp only at hl73 F13 ⊢
 obtain _ | fu := fu
 · rw [zb5] at F13; cases F13
 rw [zb5] at F13
 refine zb (zb (za ?_))
 refine s_mv ?_
 refine s_fa zR ?_
 refine zv yA25 ?_
 refine zD yU25 ?_
 refine s_lt ?_
 refine zf (zd ?_)
 refine zo F13 ?_ ?_ <;> intro C74 F14
 refine zT 61 (fun B75 => ?_)
 refine zi (zd (zb (zl (zb ?_))))
 refine zW yMix (by kernel_rfl) ?_
 refine s_mv ?_
 refine s_fa zR ?_
 refine zv yA25 ?_
 refine s_mv ?_
 obtain ⟨v76, V76, F15⟩ := zc F14
 refine z7 Form.row V76 (Form.row_eq _) yE25 ?_
 refine za1 yA27 yS27 ?_
 refine s_fa zR ?_
 refine zv yA25 ?_
 refine s_mv ?_
 refine s_mv ?_
 refine zQ rfl ?_
 refine s_mv ?_
 refine zQ rfl ?_
 refine s_mv ?_
 refine zgS rfl ?_
 refine zgS rfl ?_
 obtain ⟨v77, V77, F16⟩ := zc F15
 refine z7 Form.row V77 (Form.row_eq _) yE25 ?_
 refine za1 yA27 yS27 ?_
 obtain ⟨v78, V78, F17⟩ := zc F16
 refine zN [(9000, 4), (9001, 6), (9002, 10), (9460, 5200), (10460, 42231)] [] _ _ (ih_m_impl_match_1 fu (by omega) _ _ _ _ _ _ V78) ?_
 refine zby ?_
 refine zaA (by kernel_rfl) ?_
 refine zd ?_
 refine zo F17 ?_ ?_ <;> intro C79 F18
 refine zb (za ?_)
 refine s_as ?_
 refine s_as ?_
 refine zf (zd (zh (zj (zg (zw (zj (zg (zm ?_))))))))
 cases F18
 exact zk [] [] Tryz.results21
 refine zi (zX (zd (za ?_)))
 refine s_mv ?_
 refine zQ (zbg C74 B75 (zfb V76).1) ?_
 refine s_as ?_
 refine zf ?_
 exact s_rn (fu, (g71 + 1), v78.2) ⟨by first | omega | (dsimp only; omega), F18⟩ [(5200, 42231)]
 refine zC (zr (zq (zu (zd (zb (za ?_))))))
 refine zv yA30 ?_
 refine s_as ?_
 refine s_as ?_
 refine zf (zd (zh (zm ?_)))
 cases F14
 exact zk [] [5200] Tryz.results21
end Go.Abs
