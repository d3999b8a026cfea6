/- A part of the proof: what the functions that the law calls answer, as pure values. -/
import Derived.Test.YtcebadpiebamdaaGreatKfbd980a3bd19
import Derived.Test.YtcebadpiebamdaaGreatK423f84c32d54
import Derived.Test.YtcebadpiebamdaaGreatKf10ec3e12462
import Derived.Test.YtcebadpiebamdaaGreatKf8de2f3a577a
set_option linter.unusedSimpArgs false
set_option linter.unusedVariables false
set_option maxRecDepth 100000
set_option maxHeartbeats 4000000
namespace Go.Abs
open Go.Proofs
def m_laws_toMacro_AC (fuel : Nat) : Prop := ∀ (x1 : zq) (r : zq), zcT fuel x1 = some r → AC Tryz.prog 112 [.ag [.t (.sc (.int .i64 x1.id)), .t (.sl (x1.literals.map Form.row)), .t (.sl (x1.rules.map Rule.row))]] noOb (.ag [.t (.sc (.int .i64 r.id)), .t (.sl (r.literals.map Form.row)), .t (.sl (r.rules.map Rule.row))]) noOb
theorem m_laws_toMacro_ok (fuel : Nat) : m_laws_toMacro_AC fuel := by
 intro x1 r F0
 unfold zcT at F0
 refine AC_i [.ag [.t (.sc (.int .i64 r.id)), .t (.sl (r.literals.map Form.row)), .t (.sl (r.rules.map Rule.row))]] Tryz.func112 rfl Tryz.ntmps112 ?_
 intro C hC
 refine zb (za ?_)
 refine zaF ?_
 refine zU yZ55 ?_
 refine zf (zd (zb (za ?_)))
 refine zU yZ55 ?_
 refine zf (zd (zb (za ?_)))
 refine s_fa yF134_0 ?_
 refine zp yA3 ?_
 refine s_fa zgJ ?_
 refine zcY yS3 ?_
 refine zf (zd (zb (za ?_)))
 refine s_fa yF134_1 ?_
 refine zp yA24 ?_
 obtain ⟨v1, V1, F1⟩ := zc F0
 refine zz [] (m_laws_toFormS_ok fuel _ _ V1) ?_
 refine s_fa zfy ?_
 refine zcY yS35 ?_
 refine zf (zd (zb (za ?_)))
 refine s_fa yF134_2 ?_
 refine zp yA67 ?_
 obtain ⟨v2, V2, F2⟩ := zc F1
 refine zz [] (m_laws_toRuleS_ok fuel _ _ V2) ?_
 refine s_fa zfx ?_
 refine zcY yS53 ?_
 refine zf (zd (zb (za ?_)))
 refine zad yA55 yS55 ?_
 refine zb4 yS55 ?_
 refine zf (zd (zh (zm ?_)))
 cases F2
 exact zch [] [] (by rw [Tryz.results112]; exact (zdt (by conv => lhs; whnf) (by conv => lhs; whnf) yA55 yS55 rfl zcj))
def m_laws_toMacroS_AC (fuel : Nat) : Prop := ∀ (x1 : (List zq)) (r : (List zq)), zc0 fuel x1 = some r → AC Tryz.prog 63 [.t (.sl (x1.map zq.row))] noOb (.t (.sl (r.map zq.row))) noOb
theorem m_laws_toMacroS_ok (fuel : Nat) : m_laws_toMacroS_AC fuel := by
 intro x1 r F0
 unfold zc0 at F0
 refine AC_i [.t (.sl (r.map zq.row))] Tryz.func63 rfl Tryz.ntmps63 ?_
 intro C hC
 refine zb (za ?_)
 refine s_as ?_
 refine zf (zd (zb (za ?_)))
 refine s_mv ?_
 refine zE yU49 ?_
 obtain ⟨hk1, F1⟩ := zaS F0
 refine s_mk zq.row (zq.mk 0 ([] : List Form) ([] : List Rule)) (zq.row_eq _) hk1 yP58 yR55 ?_
 refine s_as ?_
 refine zf (zd (zb (zb (za ?_))))
 refine s_as ?_
 refine zf (zd (zl ?_))
 refine zap (β := Int × (List zq)) [4, 8, 9, 10, 11, 12, 13, 14, 15, 16, 17, 18, 19, 20, 21] [7] [] (fun a => [(4, .t (.sc (.int .i64 a.2.1)))]) (fun a => [(7, .arr (a.2.2.map zq.row) 55 true)]) (fun a => a.1 ≤ fuel ∧ zaO a.1 x1 a.2.1 a.2.2 = some r ∧ 0 ≤ a.2.1) (fuel, 0, (List.replicate (x1.length : Int).toNat (zq.mk 0 ([] : List Form) ([] : List Rule)))) ⟨Nat.le_refl _, F1, by simp⟩ ?_
 clear F1
 rintro ⟨fu, g2, g3⟩ ⟨hl4, F2, hn_g2⟩
 dsimp only at hl4 F2 hn_g2 ⊢
 obtain _ | fu := fu
 · rw [zaO] at F2; cases F2
 rw [zaO] at F2
 refine zb (zb (za ?_))
 refine s_mv ?_
 refine s_mv ?_
 refine zE yU49 ?_
 refine s_lt ?_
 refine zf (zd ?_)
 refine zn F2 ?_ ?_ <;> intro C5 F3
 refine zG 0 (fun B6 => ?_)
 refine zi (zd (zb (zl (za ?_))))
 iterate 4 refine s_mv ?_
 obtain ⟨v7, V7, F4⟩ := zc F3
 refine zL zq.row V7 (zq.row_eq _) yE49 ?_
 refine zag yA134 yS134 ?_
 obtain ⟨v8, V8, F5⟩ := zc F4
 refine zz [] (m_laws_toMacro_ok fu _ _ V8) ?_
 obtain ⟨v9, V9, F6⟩ := zc F5
 refine s_ixA zq.row V9 yE58 ?_
 refine s_stA zq.row v8 V9 (zq.row_eq _) (zq.row_eq _) yS55 yS55 ?_
 refine zf (z6 (zd (za ?_)))
 refine s_mv ?_
 refine zI (zak C5 B6 hn_g2) ?_
 refine s_as ?_
 refine zf ?_
 exact s_rn (fu, (g2 + 1), (g3.set g2.toNat v8)) ⟨by first | omega | (dsimp only; omega), F6, by first | omega | (dsimp only; omega)⟩
 refine zB (zw (zr (zx (zd (zb (za ?_))))))
 refine s_mv ?_
 refine s_as ?_
 refine zf (zd (zh (zm ?_)))
 cases F3
 exact zk [] [7] Tryz.results63
def m_laws_toExpansion_AC (fuel : Nat) : Prop := ∀ (x1 : zv) (r : zv), zaP fuel x1 = some r → AC Tryz.prog 25 [.ag [.t (.sl (x1.binds.map Bind.row)), .t (.sl (x1.macros.map zq.row)), .t (.sc (.int .i64 x1.scope)), .t (.sc (.int .i64 x1.id)), .t (.sc (.int .i64 x1.steps))]] noOb (.ag [.t (.sl (r.binds.map Bind.row)), .t (.sl (r.macros.map zq.row)), .t (.sc (.int .i64 r.scope)), .t (.sc (.int .i64 r.id)), .t (.sc (.int .i64 r.steps))]) noOb
theorem zeB (fuel : Nat) : m_laws_toExpansion_AC fuel := by
 intro x1 r F0
 unfold zaP at F0
 refine AC_i [.ag [.t (.sl (r.binds.map Bind.row)), .t (.sl (r.macros.map zq.row)), .t (.sc (.int .i64 r.scope)), .t (.sc (.int .i64 r.id)), .t (.sc (.int .i64 r.steps))]] Tryz.func25 rfl Tryz.ntmps25 ?_
 intro C hC
 refine zb (za ?_)
 refine zaF ?_
 refine zU yZ60 ?_
 refine zf (zd (zb (za ?_)))
 refine zU yZ60 ?_
 refine zf (zd (zb (za ?_)))
 refine s_fa yF51_0 ?_
 refine zp yA22 ?_
 obtain ⟨v1, V1, F1⟩ := zc F0
 refine zz [] (m_laws_toBindS_ok fuel _ _ V1) ?_
 refine s_fa yF60_0 ?_
 refine zcY yS33 ?_
 refine zf (zd (zb (za ?_)))
 refine s_fa yF51_1 ?_
 refine zp yA49 ?_
 obtain ⟨v2, V2, F2⟩ := zc F1
 refine zz [] (m_laws_toMacroS_ok fuel _ _ V2) ?_
 refine s_fa zd4 ?_
 refine zcY yS58 ?_
 refine zf (zd (zb (za ?_)))
 refine s_fa yF51_2 ?_
 refine zp yA3 ?_
 refine s_fa yF60_2 ?_
 refine zcY yS3 ?_
 refine zf (zd (zb (za ?_)))
 refine s_fa yF51_3 ?_
 refine zp yA3 ?_
 refine s_fa yF60_3 ?_
 refine zcY yS3 ?_
 refine zf (zd (zb (za ?_)))
 refine s_fa yF51_4 ?_
 refine zp yA3 ?_
 refine s_fa yF60_4 ?_
 refine zcY yS3 ?_
 refine zf (zd (zb (za ?_)))
 refine zad yA60 yS60 ?_
 refine zb4 yS60 ?_
 refine zf (zd (zh (zm ?_)))
 cases F2
 exact zch [] [] (by rw [Tryz.results25]; exact (zdt (by conv => lhs; whnf) (by conv => lhs; whnf) yA60 yS60 rfl zcj))
def m_spec_l7Macro_AC (fuel : Nat) : Prop := ∀ (x1 : zv) (x2 : Int) (r : Int), zej fuel x1 x2 = some r → AC Tryz.prog 60 [.ag [.t (.sl (x1.binds.map Bind.row)), .t (.sl (x1.macros.map zq.row)), .t (.sc (.int .i64 x1.scope)), .t (.sc (.int .i64 x1.id)), .t (.sc (.int .i64 x1.steps))], .t (.sc (.int .i64 x2))] noOb (.t (.sc (.int .i64 r))) noOb
theorem zha (fuel : Nat) : m_spec_l7Macro_AC fuel := by
 intro x1 x2 r F0
 unfold zej at F0
 refine AC_i [.t (.sc (.int .i64 r))] Tryz.func60 rfl Tryz.ntmps60 ?_
 intro C hC
 refine zb (za ?_)
 refine zaF ?_
 refine s_as ?_
 refine zf (zd (zb (zb (za ?_))))
 refine s_as ?_
 refine zf (zd (zl ?_))
 refine zap (β := Int) [4, 5, 6, 7, 8, 9, 10, 11, 12, 13, 14, 15, 16, 17, 18, 19, 20, 21] [] [] (fun a => [(5, .t (.sc (.int .i64 a.2)))]) (fun a => []) (fun a => a.1 ≤ fuel ∧ zck a.1 x1 x2 a.2 = some r ∧ 0 ≤ a.2) (fuel, 0) ⟨Nat.le_refl _, F0, by simp⟩ ?_
 clear F0
 rintro ⟨fu, g1⟩ ⟨hl2, F1, hn_g1⟩
 dsimp only at hl2 F1 hn_g1 ⊢
 obtain _ | fu := fu
 · rw [zck] at F1; cases F1
 rw [zck] at F1
 refine zb (zb (za ?_))
 refine s_mv ?_
 refine s_fa zd4 ?_
 refine zp yA58 ?_
 refine zE yU58 ?_
 refine s_lt ?_
 refine zf (zd ?_)
 refine zn F1 ?_ ?_ <;> intro C3 F2
 refine zG 8 (fun B4 => ?_)
 refine zi (zd (zb (zl (zb (za ?_)))))
 refine s_fa zd4 ?_
 refine zp yA58 ?_
 refine s_mv ?_
 obtain ⟨v5, V5, F3⟩ := zc F2
 refine zL zq.row V5 (zq.row_eq _) yE58 ?_
 refine s_fa zgJ ?_
 refine zp yA3 ?_
 refine s_mv ?_
 refine s_eq ?_
 refine zf (zd ?_)
 refine zn F3 ?_ ?_ <;> intro C6 F4
 refine zb (za ?_)
 refine s_mv ?_
 refine s_as ?_
 refine zf (zd (zh (zj (zg (zu (zj (zg (zm ?_))))))))
 cases F4
 exact zk [] [] Tryz.results60
 refine zi (z6 (zd (za ?_)))
 refine s_mv ?_
 refine zI (zak C3 B4 hn_g1) ?_
 refine s_as ?_
 refine zf ?_
 exact s_rn (fu, (g1 + 1)) ⟨by first | omega | (dsimp only; omega), F4, by first | omega | (dsimp only; omega)⟩
 refine zB (zw (zr (zx (zd (zb (za ?_))))))
 refine s_as ?_
 refine zf (zd (zh (zm ?_)))
 cases F2
 exact zk [] [] Tryz.results60
def m_spec_l1Letter_AC (fuel : Nat) : Prop := ∀ (x1 : Int) (x2 : Bool) (r : Bool), zev fuel x1 x2 = some r → AC Tryz.prog 125 [.t (.sc (.int .u8 x1)), .t (.sc (.bool x2))] noOb (.t (.sc (.bool r))) noOb
theorem m_spec_l1Letter_ok (fuel : Nat) : m_spec_l1Letter_AC fuel := by
 intro x1 x2 r F0
 unfold zev at F0
 refine AC_i [.t (.sc (.bool r))] Tryz.func125 rfl Tryz.ntmps125 ?_
 intro C hC
 refine zb (za ?_)
 refine s_as ?_
 refine zf (zd (zb (zb (za ?_))))
 refine s_mv ?_
 refine s_ge ?_
 refine s_mv ?_
 refine zy _ 7 F0 ?_ ?_ <;> intro C1 F1
 refine s_mv ?_
 refine s_le ?_
 refine zC ?_
 refine s_mv ?_
 refine zy _ 11 F1 ?_ ?_ <;> intro C2 F2
 refine r_no rfl (r_no rfl ?_)
 refine zC ?_
 refine s_mv ?_
 refine r_no rfl (r_no rfl ?_)
 refine zC ?_
 refine s_mv ?_
 refine r_no rfl (r_no rfl ?_)
 refine zC ?_
 refine s_mv ?_
 refine r_no rfl (r_no rfl ?_)
 refine zC ?_
 refine s_mv ?_
 refine r_no rfl (r_no rfl ?_)
 refine zC ?_
 refine zf (zd (zM rfl (zb (za ?_))))
 refine s_as ?_
 refine zf (zd (zh (zg (zm ?_))))
 cases F2
 exact zk [] [] Tryz.results125
 refine s_mv ?_
 refine s_eq ?_
 refine zF ?_
 refine s_mv ?_
 refine zy _ 15 F2 ?_ ?_ <;> intro C3 F3
 refine r_no rfl (r_no rfl ?_)
 refine zC ?_
 refine s_mv ?_
 refine r_no rfl (r_no rfl ?_)
 refine zC ?_
 refine s_mv ?_
 refine r_no rfl (r_no rfl ?_)
 refine zC ?_
 refine s_mv ?_
 refine r_no rfl (r_no rfl ?_)
 refine zC ?_
 refine zf (zd (zM rfl (zb (za ?_))))
 refine s_as ?_
 refine zf (zd (zh (zg (zm ?_))))
 cases F3
 exact zk [] [] Tryz.results125
 refine s_mv ?_
 refine s_eq ?_
 refine zF ?_
 refine s_mv ?_
 refine zy _ 19 F3 ?_ ?_ <;> intro C4 F4
 refine r_no rfl (r_no rfl ?_)
 refine zC ?_
 refine s_mv ?_
 refine r_no rfl (r_no rfl ?_)
 refine zC ?_
 refine s_mv ?_
 refine r_no rfl (r_no rfl ?_)
 refine zC ?_
 refine zf (zd (zM rfl (zb (za ?_))))
 refine s_as ?_
 refine zf (zd (zh (zg (zm ?_))))
 cases F4
 exact zk [] [] Tryz.results125
 refine s_mv ?_
 refine s_eq ?_
 refine zF ?_
 refine s_mv ?_
 refine zy _ 23 F4 ?_ ?_ <;> intro C5 F5
 refine r_no rfl (r_no rfl ?_)
 refine zC ?_
 refine s_mv ?_
 refine r_no rfl (r_no rfl ?_)
 refine zC ?_
 refine zf (zd (zM rfl (zb (za ?_))))
 refine s_as ?_
 refine zf (zd (zh (zg (zm ?_))))
 cases F5
 exact zk [] [] Tryz.results125
 refine s_mv ?_
 refine s_eq ?_
 refine zF ?_
 refine s_mv ?_
 refine zy _ 27 F5 ?_ ?_ <;> intro C6 F6
 refine r_no rfl (r_no rfl ?_)
 refine zC ?_
 refine zf (zd (zM rfl (zb (za ?_))))
 refine s_as ?_
 refine zf (zd (zh (zg (zm ?_))))
 cases F6
 exact zk [] [] Tryz.results125
 refine s_mv ?_
 refine s_eq ?_
 refine zF ?_
 refine zf (zd ?_)
 refine zn F6 ?_ ?_ <;> intro C7 F7
 refine zb (za ?_)
 refine s_as ?_
 refine zf (zd (zh (zg (zm ?_))))
 cases F7
 exact zk [] [] Tryz.results125
 refine zi (zd (zb (za ?_)))
 refine s_mv ?_
 refine zbC ?_
 refine s_mv ?_
 refine zy _ 33 F7 ?_ ?_ <;> intro C8 F8
 refine s_mv ?_
 refine s_ge ?_
 refine s_mv ?_
 refine zy _ 36 F8 ?_ ?_ <;> intro C9 F9
 refine s_mv ?_
 refine s_le ?_
 refine zC ?_
 refine s_mv ?_
 refine zy _ 40 F9 ?_ ?_ <;> intro C10 F10
 refine r_no rfl (r_no rfl ?_)
 refine zC ?_
 refine zC ?_
 refine s_as ?_
 refine zf (zd (zh (zm ?_)))
 cases F10
 exact zk [] [] Tryz.results125
 refine s_mv ?_
 refine s_eq ?_
 refine zF ?_
 refine zC ?_
 refine s_as ?_
 refine zf (zd (zh (zm ?_)))
 cases F10
 exact zk [] [] Tryz.results125
 refine r_no rfl (r_no rfl ?_)
 refine zF ?_
 refine s_mv ?_
 refine s_mv ?_
 refine s_eq ?_
 refine zF ?_
 refine zC ?_
 refine s_as ?_
 refine zf (zd (zh (zm ?_)))
 cases F9
 exact zk [] [] Tryz.results125
 iterate 10 refine r_no rfl ?_
 refine zF ?_
 refine s_as ?_
 refine zf (zd (zh (zm ?_)))
 cases F8
 exact zk [] [] Tryz.results125
 refine r_no rfl (r_no rfl ?_)
 refine zF ?_
 refine s_mv ?_
 refine s_mv ?_
 refine s_eq ?_
 refine zF ?_
 refine s_mv ?_
 refine zy _ 15 F1 ?_ ?_ <;> intro C11 F2
 refine r_no rfl (r_no rfl ?_)
 refine zC ?_
 refine s_mv ?_
 refine r_no rfl (r_no rfl ?_)
 refine zC ?_
 refine s_mv ?_
 refine r_no rfl (r_no rfl ?_)
 refine zC ?_
 refine s_mv ?_
 refine r_no rfl (r_no rfl ?_)
 refine zC ?_
 refine zf (zd (zM rfl (zb (za ?_))))
 refine s_as ?_
 refine zf (zd (zh (zg (zm ?_))))
 cases F2
 exact zk [] [] Tryz.results125
 refine s_mv ?_
 refine s_eq ?_
 refine zF ?_
 refine s_mv ?_
 refine zy _ 19 F2 ?_ ?_ <;> intro C12 F3
 refine r_no rfl (r_no rfl ?_)
 refine zC ?_
 refine s_mv ?_
 refine r_no rfl (r_no rfl ?_)
 refine zC ?_
 refine s_mv ?_
 refine r_no rfl (r_no rfl ?_)
 refine zC ?_
 refine zf (zd (zM rfl (zb (za ?_))))
 refine s_as ?_
 refine zf (zd (zh (zg (zm ?_))))
 cases F3
 exact zk [] [] Tryz.results125
 refine s_mv ?_
 refine s_eq ?_
 refine zF ?_
 refine s_mv ?_
 refine zy _ 23 F3 ?_ ?_ <;> intro C13 F4
 refine r_no rfl (r_no rfl ?_)
 refine zC ?_
 refine s_mv ?_
 refine r_no rfl (r_no rfl ?_)
 refine zC ?_
 refine zf (zd (zM rfl (zb (za ?_))))
 refine s_as ?_
 refine zf (zd (zh (zg (zm ?_))))
 cases F4
 exact zk [] [] Tryz.results125
 refine s_mv ?_
 refine s_eq ?_
 refine zF ?_
 refine s_mv ?_
 refine zy _ 27 F4 ?_ ?_ <;> intro C14 F5
 refine r_no rfl (r_no rfl ?_)
 refine zC ?_
 refine zf (zd (zM rfl (zb (za ?_))))
 refine s_as ?_
 refine zf (zd (zh (zg (zm ?_))))
 cases F5
 exact zk [] [] Tryz.results125
 refine s_mv ?_
 refine s_eq ?_
 refine zF ?_
 refine zf (zd ?_)
 refine zn F5 ?_ ?_ <;> intro C15 F6
 refine zb (za ?_)
 refine s_as ?_
 refine zf (zd (zh (zg (zm ?_))))
 cases F6
 exact zk [] [] Tryz.results125
 refine zi (zd (zb (za ?_)))
 refine s_mv ?_
 refine zbC ?_
 refine s_mv ?_
 refine zy _ 33 F6 ?_ ?_ <;> intro C16 F7
 refine s_mv ?_
 refine s_ge ?_
 refine s_mv ?_
 refine zy _ 36 F7 ?_ ?_ <;> intro C17 F8
 refine s_mv ?_
 refine s_le ?_
 refine zC ?_
 refine s_mv ?_
 refine zy _ 40 F8 ?_ ?_ <;> intro C18 F9
 refine r_no rfl (r_no rfl ?_)
 refine zC ?_
 refine zC ?_
 refine s_as ?_
 refine zf (zd (zh (zm ?_)))
 cases F9
 exact zk [] [] Tryz.results125
 refine s_mv ?_
 refine s_eq ?_
 refine zF ?_
 refine zC ?_
 refine s_as ?_
 refine zf (zd (zh (zm ?_)))
 cases F9
 exact zk [] [] Tryz.results125
 refine r_no rfl (r_no rfl ?_)
 refine zF ?_
 refine s_mv ?_
 refine s_mv ?_
 refine s_eq ?_
 refine zF ?_
 refine zC ?_
 refine s_as ?_
 refine zf (zd (zh (zm ?_)))
 cases F8
 exact zk [] [] Tryz.results125
 iterate 10 refine r_no rfl ?_
 refine zF ?_
 refine s_as ?_
 refine zf (zd (zh (zm ?_)))
 cases F7
 exact zk [] [] Tryz.results125
def m_spec_NameValid_AC (fuel : Nat) : Prop := ∀ (x1 : ByteArray) (r : Bool), zc9 fuel x1 = some r → AC Tryz.prog 78 [.t (.sc (.str x1))] noOb (.t (.sc (.bool r))) noOb
theorem zgz (fuel : Nat) : m_spec_NameValid_AC fuel := by
 intro x1 r F0
 unfold zc9 at F0
 refine AC_i [.t (.sc (.bool r))] Tryz.func78 rfl Tryz.ntmps78 ?_
 intro C hC
 refine zb (za ?_)
 refine s_as ?_
 refine zf (zd (zb (zb (za ?_))))
 refine s_mv ?_
 refine s_eqS ?_
 refine s_mv ?_
 refine zy _ 6 F0 ?_ ?_ <;> intro C1 F1
 refine r_no rfl (r_no rfl ?_)
 refine zC ?_
 refine zf (zd (zM rfl (zb (za ?_))))
 refine s_as ?_
 refine zf (zd (zh (zg (zm ?_))))
 cases F1
 exact zk [] [] Tryz.results78
 refine s_mv ?_
 refine s_eqS ?_
 refine zF ?_
 refine zf (zd ?_)
 refine zn F1 ?_ ?_ <;> intro C2 F2
 refine zb (za ?_)
 refine s_as ?_
 refine zf (zd (zh (zg (zm ?_))))
 cases F2
 exact zk [] [] Tryz.results78
 refine zi (zd (zb (zb (za ?_))))
 refine s_as ?_
 refine zf (zd (zl ?_))
 refine zap (β := Int) [2, 3, 10, 11, 12, 13, 14, 15, 16, 17, 18, 19, 20, 21, 22, 23, 24, 25, 26] [] [] (fun a => [(3, .t (.sc (.int .i64 a.2)))]) (fun a => []) (fun a => a.1 ≤ fuel ∧ zbn a.1 x1 a.2 = some r) (fuel, 0) ⟨Nat.le_refl _, F2⟩ ?_
 clear F2
 rintro ⟨fu, g3⟩ ⟨hl4, F3⟩
 dsimp only at hl4 F3 ⊢
 obtain _ | fu := fu
 · rw [zbn] at F3; cases F3
 rw [zbn] at F3
 refine zb (zb (za ?_))
 refine s_mv ?_
 refine s_mv ?_
 refine s_lenS yU9 ?_
 refine s_lt ?_
 refine s_mv ?_
 refine zy _ 14 F3 ?_ ?_ <;> intro C5 F4
 refine s_mv ?_
 refine s_le ?_
 refine zC ?_
 refine zf (zd ?_)
 refine zn F4 ?_ ?_ <;> intro C6 F5
 refine zi (zd (zb (zl (zb (za ?_)))))
 refine s_mv ?_
 refine s_mv ?_
 obtain ⟨v7, V7, F6⟩ := zc F5
 refine s_ixS V7 yU9 ?_
 refine s_mv ?_
 refine s_eq ?_
 obtain ⟨v8, V8, F7⟩ := zc F6
 refine zz [] (m_spec_l1Letter_ok fu _ _ _ V8) ?_
 refine zbC ?_
 refine zf (zd ?_)
 refine zn F7 ?_ ?_ <;> intro C9 F8
 refine zb (za ?_)
 refine s_as ?_
 refine zf (zd (zh (zj (zg (zu (zj (zg (zm ?_))))))))
 cases F8
 exact zk [] [] Tryz.results78
 refine zi (z6 (zd (za ?_)))
 refine s_mv ?_
 refine zI rfl ?_
 refine s_as ?_
 refine zf ?_
 exact s_rn (fu, (w64 (g3 + 1))) ⟨by first | omega | (dsimp only; omega), F8⟩
 refine zB (zw (zr (zx (zd (zb (za ?_))))))
 refine s_mv ?_
 refine s_lenS yU9 ?_
 refine s_ge ?_
 refine s_mv ?_
 refine zy _ 30 F5 ?_ ?_ <;> intro C10 F6
 refine s_mv ?_
 refine s_lenS yU9 ?_
 refine s_le ?_
 refine zC ?_
 refine s_as ?_
 refine zf (zd (zh (zm ?_)))
 cases F6
 exact zk [] [] Tryz.results78
 iterate 3 refine r_no rfl ?_
 refine zF ?_
 refine s_as ?_
 refine zf (zd (zh (zm ?_)))
 cases F6
 exact zk [] [] Tryz.results78
 refine r_no rfl (r_no rfl ?_)
 refine zF ?_
 refine zf (zd (zci rfl (zB (zw (zr (zx (zd (zb (za ?_)))))))))
 refine s_mv ?_
 refine s_lenS yU9 ?_
 refine s_ge ?_
 refine s_mv ?_
 refine zy _ 30 F4 ?_ ?_ <;> intro C11 F5
 refine s_mv ?_
 refine s_lenS yU9 ?_
 refine s_le ?_
 refine zC ?_
 refine s_as ?_
 refine zf (zd (zh (zm ?_)))
 cases F5
 exact zk [] [] Tryz.results78
 iterate 3 refine r_no rfl ?_
 refine zF ?_
 refine s_as ?_
 refine zf (zd (zh (zm ?_)))
 cases F5
 exact zk [] [] Tryz.results78
def m_spec_l1Scopes_AC (fuel : Nat) : Prop := ∀ (x1 : (List Int)) (r : Bool), zdI fuel x1 = some r → AC Tryz.prog 79 [.t (.sl (x1.map rI))] noOb (.t (.sc (.bool r))) noOb
theorem zgQ (fuel : Nat) : m_spec_l1Scopes_AC fuel := by
 intro x1 r F0
 unfold zdI at F0
 refine AC_i [.t (.sc (.bool r))] Tryz.func79 rfl Tryz.ntmps79 ?_
 intro C hC
 refine zb (za ?_)
 refine s_as ?_
 refine zf (zd (zb (zb (za ?_))))
 refine s_as ?_
 refine zf (zd (zl ?_))
 refine zap (β := Int) [2, 3, 4, 5, 6, 7, 8, 9, 10, 11, 12, 13, 14, 15, 16, 17, 18, 19, 20, 21, 22, 23, 24, 25, 26, 27, 28, 29, 30, 31, 32, 33, 34, 35, 36, 37, 38, 39, 40, 41] [] [] (fun a => [(3, .t (.sc (.int .i64 a.2)))]) (fun a => []) (fun a => a.1 ≤ fuel ∧ zbc a.1 x1 a.2 = some r) (fuel, 0) ⟨Nat.le_refl _, F0⟩ ?_
 clear F0
 rintro ⟨fu, g1⟩ ⟨hl2, F1⟩
 dsimp only at hl2 F1 ⊢
 obtain _ | fu := fu
 · rw [zbc] at F1; cases F1
 rw [zbc] at F1
 refine zb (zb (za ?_))
 refine s_mv ?_
 refine s_mv ?_
 refine zE yU23 ?_
 refine s_lt ?_
 refine s_mv ?_
 refine zy _ 8 F1 ?_ ?_ <;> intro C3 F2
 refine s_mv ?_
 refine s_le ?_
 refine zC ?_
 refine zf (zd ?_)
 refine zn F2 ?_ ?_ <;> intro C4 F3
 refine zi (zd (zb (zl (zb ?_))))
 refine zaf yMix (by kernel_rfl) ?_
 refine s_mv ?_
 refine s_mv ?_
 obtain ⟨v5, V5, F4⟩ := zc F3
 refine zL rI V5 rfl yE23 ?_
 refine zp yA3 ?_
 refine s_lt ?_
 refine s_mv ?_
 refine zy _ 19 F4 ?_ ?_ <;> intro C6 F5
 iterate 5 refine r_no rfl ?_
 refine zC ?_
 refine s_mv ?_
 iterate 14 refine r_no rfl ?_
 refine zC ?_
 refine zao (by kernel_rfl) ?_
 refine zd (zM rfl (zb (za ?_)))
 refine s_as ?_
 refine zf (zd (zh (zj (zg (zu (zj (zg (zm ?_))))))))
 cases F5
 exact zk [] [] Tryz.results79
 refine s_mv ?_
 refine s_mv ?_
 obtain ⟨v7, V7, F6⟩ := zc F5
 refine zL rI V7 rfl yE23 ?_
 refine zp yA3 ?_
 refine s_gt ?_
 refine zF ?_
 refine s_mv ?_
 refine zy _ 26 F6 ?_ ?_ <;> intro C8 F7
 iterate 14 refine r_no rfl ?_
 refine zC ?_
 refine zao (by kernel_rfl) ?_
 refine zd (zM rfl (zb (za ?_)))
 refine s_as ?_
 refine zf (zd (zh (zj (zg (zu (zj (zg (zm ?_))))))))
 cases F7
 exact zk [] [] Tryz.results79
 refine s_mv ?_
 refine s_gt ?_
 refine s_mv ?_
 refine zy _ 29 F7 ?_ ?_ <;> intro C9 F8
 refine s_mv ?_
 refine s_mv ?_
 obtain ⟨v10, V10, F9⟩ := zc F8
 refine zL rI V10 rfl yE23 ?_
 refine zp yA3 ?_
 refine s_mv ?_
 refine s_mv ?_
 refine s_sub rfl ?_
 obtain ⟨v11, V11, F10⟩ := zc F9
 refine zL rI V11 rfl yE23 ?_
 refine zp yA3 ?_
 refine s_le ?_
 refine zC ?_
 refine zF ?_
 refine zao (by kernel_rfl) ?_
 refine zd ?_
 refine zn F10 ?_ ?_ <;> intro C12 F11
 refine zb (za ?_)
 refine s_as ?_
 refine zf (zd (zh (zj (zg (zu (zj (zg (zm ?_))))))))
 cases F11
 exact zk [] [] Tryz.results79
 refine zi (z6 (zd (za ?_)))
 refine s_mv ?_
 refine zI rfl ?_
 refine s_as ?_
 refine zf ?_
 exact s_rn (fu, (w64 (g1 + 1))) ⟨by first | omega | (dsimp only; omega), F11⟩
 iterate 10 refine r_no rfl ?_
 refine zF ?_
 refine zF ?_
 refine zao (by kernel_rfl) ?_
 refine zd (zci rfl (zi (z6 (zd (za ?_)))))
 refine s_mv ?_
 refine zI rfl ?_
 refine s_as ?_
 refine zf ?_
 exact s_rn (fu, (w64 (g1 + 1))) ⟨by first | omega | (dsimp only; omega), F8⟩
 refine zB (zw (zr (zx (zd (zb (za ?_))))))
 refine s_mv ?_
 refine zE yU23 ?_
 refine s_le ?_
 refine s_as ?_
 refine zf (zd (zh (zm ?_)))
 cases F3
 exact zk [] [] Tryz.results79
 refine r_no rfl (r_no rfl ?_)
 refine zF ?_
 refine zf (zd (zci rfl (zB (zw (zr (zx (zd (zb (za ?_)))))))))
 refine s_mv ?_
 refine zE yU23 ?_
 refine s_le ?_
 refine s_as ?_
 refine zf (zd (zh (zm ?_)))
 cases F2
 exact zk [] [] Tryz.results79
def m_spec_l1Ints_AC (fuel : Nat) : Prop := ∀ (x1 : (List Int)) (x2 : (List Int)) (r : Bool), zeK fuel x1 x2 = some r → AC Tryz.prog 80 [.t (.sl (x1.map rI)), .t (.sl (x2.map rI))] noOb (.t (.sc (.bool r))) noOb
theorem m_spec_l1Ints_ok (fuel : Nat) : m_spec_l1Ints_AC fuel := by
 intro x1 x2 r F0
 unfold zeK at F0
 refine AC_i [.t (.sc (.bool r))] Tryz.func80 rfl Tryz.ntmps80 ?_
 intro C hC
 refine zb (za ?_)
 refine s_as ?_
 refine zf (zd (zb (zb (za ?_))))
 refine s_mv ?_
 refine zE yU23 ?_
 refine s_mv ?_
 refine zE yU23 ?_
 refine s_ne ?_
 refine zf (zd ?_)
 refine zn F0 ?_ ?_ <;> intro C1 F1
 refine zb (za ?_)
 refine s_as ?_
 refine zf (zd (zh (zg (zm ?_))))
 cases F1
 exact zk [] [] Tryz.results80
 refine zi (zd (zb (zb (za ?_))))
 refine s_as ?_
 refine zf (zd (zl ?_))
 refine zap (β := Int) [4, 5, 11, 12, 13, 14, 15, 16, 17, 18, 19, 20, 21, 22, 23, 24, 25] [] [] (fun a => [(5, .t (.sc (.int .i64 a.2)))]) (fun a => []) (fun a => a.1 ≤ fuel ∧ zcC a.1 x1 x2 a.2 = some r ∧ 0 ≤ a.2) (fuel, 0) ⟨Nat.le_refl _, F1, by simp⟩ ?_
 clear F1
 rintro ⟨fu, g2⟩ ⟨hl3, F2, hn_g2⟩
 dsimp only at hl3 F2 hn_g2 ⊢
 obtain _ | fu := fu
 · rw [zcC] at F2; cases F2
 rw [zcC] at F2
 refine zb (zb (za ?_))
 refine s_mv ?_
 refine s_mv ?_
 refine zE yU23 ?_
 refine s_lt ?_
 refine zf (zd ?_)
 refine zn F2 ?_ ?_ <;> intro C4 F3
 refine zG 0 (fun B5 => ?_)
 refine zi (zd (zb (zl (zb ?_))))
 refine zaf yMix (by kernel_rfl) ?_
 refine s_mv ?_
 refine s_mv ?_
 obtain ⟨v6, V6, F4⟩ := zc F3
 refine zL rI V6 rfl yE23 ?_
 refine zp yA3 ?_
 refine s_mv ?_
 refine s_mv ?_
 obtain ⟨v7, V7, F5⟩ := zc F4
 refine zL rI V7 rfl yE23 ?_
 refine zp yA3 ?_
 refine s_ne ?_
 refine zao (by kernel_rfl) ?_
 refine zd ?_
 refine zn F5 ?_ ?_ <;> intro C8 F6
 refine zb (za ?_)
 refine s_as ?_
 refine zf (zd (zh (zj (zg (zu (zj (zg (zm ?_))))))))
 cases F6
 exact zk [] [] Tryz.results80
 refine zi (z6 (zd (za ?_)))
 refine s_mv ?_
 refine zI (zak C4 B5 hn_g2) ?_
 refine s_as ?_
 refine zf ?_
 exact s_rn (fu, (g2 + 1)) ⟨by first | omega | (dsimp only; omega), F6, by first | omega | (dsimp only; omega)⟩
 refine zB (zw (zr (zx (zd (zb (za ?_))))))
 refine s_as ?_
 refine zf (zd (zh (zm ?_)))
 cases F3
 exact zk [] [] Tryz.results80
def m_spec_BindsValid_AC (fuel : Nat) : Prop := ∀ (x1 : (List Bind)) (r : Bool), zdJ fuel x1 = some r → AC Tryz.prog 41 [.t (.sl (x1.map Bind.row))] noOb (.t (.sc (.bool r))) noOb
theorem m_spec_BindsValid_ok (fuel : Nat) : m_spec_BindsValid_AC fuel := by
 intro x1 r F0
 unfold zdJ at F0
 refine AC_i [.t (.sc (.bool r))] Tryz.func41 rfl Tryz.ntmps41 ?_
 intro C hC
 refine zb (za ?_)
 refine s_as ?_
 refine zf (zd (zb (zb (za ?_))))
 refine s_as ?_
 refine zf (zd (zl ?_))
 refine zap (β := Int) [2, 3, 4, 5, 6, 7, 8, 9, 10, 11, 12, 13, 14, 15, 16, 17, 18, 19, 20, 21, 22, 23, 24, 25, 26, 27, 28, 29, 30, 31, 32, 33, 34, 35, 36, 37, 38, 39, 40, 41, 42, 43, 44, 45, 46, 47, 48, 49, 50, 51, 52, 53, 54, 55, 56, 57, 58, 59, 60, 61, 62, 63, 64, 65, 66, 67, 68, 69, 70, 71, 72, 73, 74, 75] [] [] (fun a => [(2, .t (.sc (.bool false))), (3, .t (.sc (.int .i64 a.2)))]) (fun a => []) (fun a => a.1 ≤ fuel ∧ za6 a.1 x1 a.2 = some r) (fuel, 0) ⟨Nat.le_refl _, F0⟩ ?_
 clear F0
 rintro ⟨fu, g1⟩ ⟨hl2, F1⟩
 dsimp only at hl2 F1 ⊢
 obtain _ | fu := fu
 · rw [za6] at F1; cases F1
 rw [za6] at F1
 refine zb ?_
 refine zgd (α := Nat × Bool) [5, 6, 7, 8, 9, 10, 11, 12] [] [] (fun a => [(12, .t (.sc (.bool a.2)))]) (fun a => []) (fun a => a.1 ≤ fu ∧ za8 a.1 x1 g1 a.2 = some r) ?_ ?_
 refine za ?_
 refine s_mv ?_
 refine s_mv ?_
 refine zE yU33 ?_
 refine s_lt ?_
 refine s_mv ?_
 refine zy _ 9 F1 ?_ ?_ <;> intro C3 F2
 refine s_mv ?_
 refine s_le ?_
 refine zC ?_
 refine zf ?_
 exact s_jn (fu, (decide (g1 ≤ 60))) ⟨by first | omega | (dsimp only; omega), F2⟩
 refine r_no rfl (r_no rfl ?_)
 refine zF ?_
 refine zf ?_
 exact s_jn (fu, false) ⟨by first | omega | (dsimp only; omega), F2⟩
 clear F1
 rintro ⟨fu, g4⟩ ⟨hl5, F2⟩
 dsimp only at hl5 F2 ⊢
 obtain _ | fu := fu
 · rw [za8] at F2; cases F2
 rw [za8] at F2
 refine zn F2 ?_ ?_ <;> intro C6 F3
 refine zi (zd (zb (zl (zb ?_))))
 refine zgd (α := Nat × Bool) [15, 16, 17, 18, 19, 20, 21, 22, 23, 24, 25, 26, 27, 28, 29, 30, 31, 32, 33, 34, 35, 36, 37, 38, 39, 40, 41, 42, 43, 44, 45, 46] [] [] (fun a => [(46, .t (.sc (.bool a.2)))]) (fun a => []) (fun a => a.1 ≤ fu ∧ zaw a.1 x1 g1 a.2 = some r) ?_ ?_
 refine za ?_
 refine s_mv ?_
 refine s_mv ?_
 obtain ⟨v7, V7, F4⟩ := zc F3
 refine zL Bind.row V7 (Bind.row_eq _) yE33 ?_
 refine s_fa yF83_0 ?_
 refine zp yA9 ?_
 obtain ⟨v8, V8, F5⟩ := zc F4
 refine zz [] (zgz fu _ _ V8) ?_
 refine zbC ?_
 refine s_mv ?_
 refine zy _ 22 F5 ?_ ?_ <;> intro C9 F6
 iterate 7 refine r_no rfl ?_
 refine zC ?_
 refine s_mv ?_
 iterate 6 refine r_no rfl ?_
 refine zC ?_
 refine s_mv ?_
 iterate 6 refine r_no rfl ?_
 refine zC ?_
 refine zf ?_
 exact s_jn (fu, true) ⟨by first | omega | (dsimp only; omega), F6⟩
 refine s_mv ?_
 refine s_mv ?_
 obtain ⟨v10, V10, F7⟩ := zc F6
 refine zL Bind.row V10 (Bind.row_eq _) yE33 ?_
 refine s_fa yF83_1 ?_
 refine zp yA23 ?_
 obtain ⟨v11, V11, F8⟩ := zc F7
 refine zz [] (zgQ fu _ _ V11) ?_
 refine zbC ?_
 refine zF ?_
 refine s_mv ?_
 refine zy _ 31 F8 ?_ ?_ <;> intro C12 F9
 iterate 6 refine r_no rfl ?_
 refine zC ?_
 refine s_mv ?_
 iterate 6 refine r_no rfl ?_
 refine zC ?_
 refine zf ?_
 exact s_jn (fu, true) ⟨by first | omega | (dsimp only; omega), F9⟩
 refine s_mv ?_
 refine s_mv ?_
 obtain ⟨v13, V13, F10⟩ := zc F9
 refine zL Bind.row V13 (Bind.row_eq _) yE33 ?_
 refine s_fa zg7 ?_
 refine zp yA3 ?_
 refine s_lt ?_
 refine zF ?_
 refine s_mv ?_
 refine zy _ 39 F10 ?_ ?_ <;> intro C14 F11
 iterate 6 refine r_no rfl ?_
 refine zC ?_
 refine zf ?_
 exact s_jn (fu, true) ⟨by first | omega | (dsimp only; omega), F11⟩
 refine s_mv ?_
 refine s_mv ?_
 obtain ⟨v15, V15, F12⟩ := zc F11
 refine zL Bind.row V15 (Bind.row_eq _) yE33 ?_
 refine s_fa zg7 ?_
 refine zp yA3 ?_
 refine s_gt ?_
 refine zF ?_
 refine zf ?_
 exact s_jn (fu, (decide (999 < v15.id))) ⟨by first | omega | (dsimp only; omega), F12⟩
 clear F3
 rintro ⟨fu, g16⟩ ⟨hl17, F4⟩
 dsimp only at hl17 F4 ⊢
 obtain _ | fu := fu
 · rw [zaw] at F4; cases F4
 rw [zaw] at F4
 refine zn F4 ?_ ?_ <;> intro C18 F5
 refine zb (za ?_)
 refine s_as ?_
 refine zf (zd (zh (zg (zj (zg (zu (zj (zg (zm ?_)))))))))
 cases F5
 exact zk [] [] Tryz.results41
 refine zi (zd (zb (za ?_)))
 refine s_as ?_
 refine zf (zd (zl ?_))
 refine zap (β := Int) [2, 4, 47, 48, 49, 50, 51, 52, 53, 54, 55, 56, 57, 58, 59, 60, 61, 62, 63, 64, 65, 66, 67, 68, 69, 70, 71, 72, 73, 74, 75] [] [] (fun a => [(2, .t (.sc (.bool false))), (4, .t (.sc (.int .i64 a.2)))]) (fun a => []) (fun a => a.1 ≤ fu ∧ za5 a.1 x1 g1 a.2 = some r) (fu, 0) ⟨Nat.le_refl _, F5⟩ ?_
 clear F5
 rintro ⟨fu, g19⟩ ⟨hl20, F6⟩
 dsimp only at hl20 F6 ⊢
 obtain _ | fu := fu
 · rw [za5] at F6; cases F6
 rw [za5] at F6
 refine zb (zb (za ?_))
 refine s_mv ?_
 refine s_mv ?_
 refine s_lt ?_
 refine zf (zd ?_)
 refine zn F6 ?_ ?_ <;> intro C21 F7
 refine zi (zd (zb (zl ?_)))
 refine zgd (α := Nat × Bool) [52, 53, 54, 55, 56, 57, 58, 59, 60, 61, 62, 63, 64, 65, 66, 67, 68, 69, 70, 71, 72, 73, 74, 75] [] [] (fun a => [(75, .t (.sc (.bool a.2)))]) (fun a => []) (fun a => a.1 ≤ fu ∧ za7 a.1 x1 g1 g19 a.2 = some r) ?_ ?_
 refine zaf yMix (by kernel_rfl) ?_
 refine s_mv ?_
 refine s_mv ?_
 obtain ⟨v22, V22, F8⟩ := zc F7
 refine zL Bind.row V22 (Bind.row_eq _) yE33 ?_
 refine s_fa yF83_0 ?_
 refine zp yA9 ?_
 refine s_mv ?_
 refine s_mv ?_
 obtain ⟨v23, V23, F9⟩ := zc F8
 refine zL Bind.row V23 (Bind.row_eq _) yE33 ?_
 refine s_fa yF83_0 ?_
 refine zp yA9 ?_
 refine s_eqS ?_
 refine s_mv ?_
 refine zy _ 63 F9 ?_ ?_ <;> intro C24 F10
 refine s_mv ?_
 refine s_mv ?_
 obtain ⟨v25, V25, F11⟩ := zc F10
 refine zL Bind.row V25 (Bind.row_eq _) yE33 ?_
 refine s_fa yF83_1 ?_
 refine zp yA23 ?_
 refine s_mv ?_
 refine s_mv ?_
 obtain ⟨v26, V26, F12⟩ := zc F11
 refine zL Bind.row V26 (Bind.row_eq _) yE33 ?_
 refine s_fa yF83_1 ?_
 refine zp yA23 ?_
 obtain ⟨v27, V27, F13⟩ := zc F12
 refine zz [] (m_spec_l1Ints_ok fu _ _ _ V27) ?_
 refine zC ?_
 refine zao (by kernel_rfl) ?_
 exact s_jn (fu, v27) ⟨by first | omega | (dsimp only; omega), F13⟩
 iterate 11 refine r_no rfl ?_
 refine zF ?_
 refine zao (by kernel_rfl) ?_
 exact s_jn (fu, false) ⟨by first | omega | (dsimp only; omega), F10⟩
 clear F7
 rintro ⟨fu, g28⟩ ⟨hl29, F8⟩
 dsimp only at hl29 F8 ⊢
 obtain _ | fu := fu
 · rw [za7] at F8; cases F8
 rw [za7] at F8
 refine zn F8 ?_ ?_ <;> intro C30 F9
 refine zb (za ?_)
 refine s_as ?_
 refine zf (zd (zh (zj (zg (zu (zj (zj (zg (zu (zj (zg (zm ?_))))))))))))
 cases F9
 exact zk [] [] Tryz.results41
 refine zi (z6 (zd (za ?_)))
 refine s_mv ?_
 refine zI rfl ?_
 refine s_as ?_
 refine zf ?_
 exact s_rn (fu, (w64 (g19 + 1))) ⟨by first | omega | (dsimp only; omega), F9⟩
 refine zB (zw (zr (zx (z6 (zd (za ?_))))))
 refine s_mv ?_
 refine zI rfl ?_
 refine s_as ?_
 refine zf ?_
 exact s_rn (fu, (w64 (g1 + 1))) ⟨by first | omega | (dsimp only; omega), F7⟩
 refine zB (zw (zr (zx (zd (zb (za ?_))))))
 refine s_mv ?_
 refine zE yU33 ?_
 refine s_le ?_
 refine s_as ?_
 refine zf (zd (zh (zm ?_)))
 cases F3
 exact zk [] [] Tryz.results41
def m_spec_l7In_AC (fuel : Nat) : Prop := ∀ (x1 : Int) (x2 : Int) (x3 : Int) (r : Bool), zfi fuel x1 x2 x3 = some r → AC Tryz.prog 110 [.t (.sc (.int .i64 x1)), .t (.sc (.int .i64 x2)), .t (.sc (.int .i64 x3))] noOb (.t (.sc (.bool r))) noOb
theorem zgY (fuel : Nat) : m_spec_l7In_AC fuel := by
 intro x1 x2 x3 r F0
 unfold zfi at F0
 refine AC_i [.t (.sc (.bool r))] Tryz.func110 rfl Tryz.ntmps110 ?_
 intro C hC
 refine zb (za ?_)
 refine s_as ?_
 refine zf (zd (zb (za ?_)))
 refine s_mv ?_
 refine s_mv ?_
 refine s_ge ?_
 refine s_mv ?_
 refine zy _ 10 F0 ?_ ?_ <;> intro C1 F1
 refine s_mv ?_
 refine s_mv ?_
 refine s_le ?_
 refine zC ?_
 refine s_as ?_
 refine zf (zd (zh (zm ?_)))
 cases F1
 exact zk [] [] Tryz.results110
 iterate 3 refine r_no rfl ?_
 refine zF ?_
 refine s_as ?_
 refine zf (zd (zh (zm ?_)))
 cases F1
 exact zk [] [] Tryz.results110
def zf0 (fuel : Nat) : Prop := ∀ (x1 : Form) (x2 : Int) (r : Bool), zew fuel x1 x2 = some r → AC Tryz.prog 86 [.ag [.t (.sc (.int .i64 x1.kind)), .t (.sc (.str x1.name)), .t (.sc (.int .i64 x1.n)), .t (.sl (x1.scopes.map rI)), .t (.sl (x1.kids.map Form.row))], .t (.sc (.int .i64 x2))] noOb (.t (.sc (.bool r))) noOb
theorem m_spec_l1Is_st (fu : Nat) (ih_m_spec_l1Is : ∀ k, k ≤ fu → zf0 k) : zf0 (fu + 1) := by
 intro x1 x2 r F0
 rw [zew] at F0
 refine AC_i [.t (.sc (.bool r))] Tryz.func86 rfl Tryz.ntmps86 ?_
 intro C hC
 refine zb (za ?_)
 refine zaF ?_
 refine s_as ?_
 refine zf (zd (zb (zb (za ?_))))
 refine s_mv ?_
 refine s_eq ?_
 refine zf (zd ?_)
 refine zn F0 ?_ ?_ <;> intro C1 F1
 refine zb (za ?_)
 refine s_as ?_
 refine zf (zd (zh (zg (zm ?_))))
 cases F1
 exact zk [] [] Tryz.results86
 refine zi (zd (zb (zb (za ?_))))
 refine s_fa zc8 ?_
 refine zp yA3 ?_
 refine zf (zd (zl (zb (za ?_))))
 refine s_eq ?_
 refine s_as ?_
 refine zf (zd ?_)
 refine zn F1 ?_ ?_ <;> intro C2 F2
 refine zb (za ?_)
 refine s_fa zcH ?_
 refine zp yA9 ?_
 obtain ⟨v3, V3, F3⟩ := zc F2
 refine zz [] (zgz fu _ _ V3) ?_
 refine s_mv ?_
 refine zy _ 15 F3 ?_ ?_ <;> intro C4 F4
 refine s_fa zep ?_
 refine zp yA3 ?_
 refine s_eq ?_
 refine zC ?_
 refine s_mv ?_
 refine zy _ 20 F4 ?_ ?_ <;> intro C5 F5
 refine s_fa zeu ?_
 refine zp yA23 ?_
 obtain ⟨v6, V6, F6⟩ := zc F5
 refine zz [] (zgQ fu _ _ V6) ?_
 refine zC ?_
 refine s_mv ?_
 refine zy _ 25 F6 ?_ ?_ <;> intro C7 F7
 refine s_fa zZ ?_
 refine zp yA35 ?_
 refine zE yU35 ?_
 refine s_eq ?_
 refine zC ?_
 refine s_as ?_
 refine zf (zd (zh (zj (zg (zm ?_)))))
 cases F7
 exact zk [] [] Tryz.results86
 iterate 4 refine r_no rfl ?_
 refine zF ?_
 refine s_as ?_
 refine zf (zd (zh (zj (zg (zm ?_)))))
 cases F7
 exact zk [] [] Tryz.results86
 iterate 3 refine r_no rfl ?_
 refine zF ?_
 refine s_mv ?_
 iterate 4 refine r_no rfl ?_
 refine zF ?_
 refine s_as ?_
 refine zf (zd (zh (zj (zg (zm ?_)))))
 cases F5
 exact zk [] [] Tryz.results86
 iterate 3 refine r_no rfl ?_
 refine zF ?_
 refine s_mv ?_
 iterate 3 refine r_no rfl ?_
 refine zF ?_
 refine s_mv ?_
 iterate 4 refine r_no rfl ?_
 refine zF ?_
 refine s_as ?_
 refine zf (zd (zh (zj (zg (zm ?_)))))
 cases F4
 exact zk [] [] Tryz.results86
 refine zb (za ?_)
 refine s_eq ?_
 refine s_as ?_
 refine zf (zd ?_)
 refine zn F2 ?_ ?_ <;> intro C8 F3
 refine zb (za ?_)
 refine s_fa zcH ?_
 refine zp yA9 ?_
 refine s_eqS ?_
 refine s_mv ?_
 refine zy _ 36 F3 ?_ ?_ <;> intro C9 F4
 refine s_fa zep ?_
 refine zp yA3 ?_
 refine s_ge ?_
 refine zC ?_
 refine s_mv ?_
 refine zy _ 41 F4 ?_ ?_ <;> intro C10 F5
 refine s_fa zep ?_
 refine zp yA3 ?_
 refine s_le ?_
 refine zC ?_
 refine s_mv ?_
 refine zy _ 46 F5 ?_ ?_ <;> intro C11 F6
 refine s_fa zeu ?_
 refine zp yA23 ?_
 refine zE yU23 ?_
 refine s_eq ?_
 refine zC ?_
 refine s_mv ?_
 refine zy _ 52 F6 ?_ ?_ <;> intro C12 F7
 refine s_fa zZ ?_
 refine zp yA35 ?_
 refine zE yU35 ?_
 refine s_eq ?_
 refine zC ?_
 refine s_as ?_
 refine zf (zd (zh (zj (zg (zm ?_)))))
 cases F7
 exact zk [] [] Tryz.results86
 iterate 4 refine r_no rfl ?_
 refine zF ?_
 refine s_as ?_
 refine zf (zd (zh (zj (zg (zm ?_)))))
 cases F7
 exact zk [] [] Tryz.results86
 iterate 4 refine r_no rfl ?_
 refine zF ?_
 refine s_mv ?_
 iterate 4 refine r_no rfl ?_
 refine zF ?_
 refine s_as ?_
 refine zf (zd (zh (zj (zg (zm ?_)))))
 cases F6
 exact zk [] [] Tryz.results86
 iterate 3 refine r_no rfl ?_
 refine zF ?_
 refine s_mv ?_
 iterate 4 refine r_no rfl ?_
 refine zF ?_
 refine s_mv ?_
 iterate 4 refine r_no rfl ?_
 refine zF ?_
 refine s_as ?_
 refine zf (zd (zh (zj (zg (zm ?_)))))
 cases F5
 exact zk [] [] Tryz.results86
 iterate 3 refine r_no rfl ?_
 refine zF ?_
 refine s_mv ?_
 iterate 3 refine r_no rfl ?_
 refine zF ?_
 refine s_mv ?_
 iterate 4 refine r_no rfl ?_
 refine zF ?_
 refine s_mv ?_
 iterate 4 refine r_no rfl ?_
 refine zF ?_
 refine s_as ?_
 refine zf (zd (zh (zj (zg (zm ?_)))))
 cases F4
 exact zk [] [] Tryz.results86
 refine zi (z6 (zd (zb (zb (za ?_)))))
 refine s_fa zc8 ?_
 refine zp yA3 ?_
 refine s_ne ?_
 refine s_mv ?_
 refine zy _ 61 F3 ?_ ?_ <;> intro C13 F4
 iterate 3 refine r_no rfl ?_
 refine zC ?_
 refine s_mv ?_
 iterate 3 refine r_no rfl ?_
 refine zC ?_
 refine s_mv ?_
 iterate 4 refine r_no rfl ?_
 refine zC ?_
 refine zf (zd (zM rfl (zb (za ?_))))
 refine s_as ?_
 refine zf (zd (zh (zg (zm ?_))))
 cases F4
 exact zk [] [] Tryz.results86
 refine s_fa zcH ?_
 refine zp yA9 ?_
 refine s_neS ?_
 refine zF ?_
 refine s_mv ?_
 refine zy _ 66 F4 ?_ ?_ <;> intro C14 F5
 iterate 3 refine r_no rfl ?_
 refine zC ?_
 refine s_mv ?_
 iterate 4 refine r_no rfl ?_
 refine zC ?_
 refine zf (zd (zM rfl (zb (za ?_))))
 refine s_as ?_
 refine zf (zd (zh (zg (zm ?_))))
 cases F5
 exact zk [] [] Tryz.results86
 refine s_fa zep ?_
 refine zp yA3 ?_
 refine s_ne ?_
 refine zF ?_
 refine s_mv ?_
 refine zy _ 71 F5 ?_ ?_ <;> intro C15 F6
 iterate 4 refine r_no rfl ?_
 refine zC ?_
 refine zf (zd (zM rfl (zb (za ?_))))
 refine s_as ?_
 refine zf (zd (zh (zg (zm ?_))))
 cases F6
 exact zk [] [] Tryz.results86
 refine s_fa zeu ?_
 refine zp yA23 ?_
 refine zE yU23 ?_
 refine s_ne ?_
 refine zF ?_
 refine zf (zd ?_)
 refine zn F6 ?_ ?_ <;> intro C16 F7
 refine zb (za ?_)
 refine s_as ?_
 refine zf (zd (zh (zg (zm ?_))))
 cases F7
 exact zk [] [] Tryz.results86
 refine zi (zd (zb (zb (za ?_))))
 refine s_as ?_
 refine zf (zd (zl ?_))
 refine zap (β := Int) [4, 5, 77, 78, 79, 80, 81, 82, 83, 84, 85, 86, 87, 88, 89, 90, 91, 92] [] [] (fun a => [(5, .t (.sc (.int .i64 a.2)))]) (fun a => []) (fun a => a.1 ≤ fu ∧ zdw a.1 x1 x2 a.2 = some r ∧ 0 ≤ a.2) (fu, 0) ⟨Nat.le_refl _, F7, by simp⟩ ?_
 clear F7
 rintro ⟨fu, g17⟩ ⟨hl18, F8, hn_g17⟩
 dsimp only at hl18 F8 hn_g17 ⊢
 obtain _ | fu := fu
 · rw [zdw] at F8; cases F8
 rw [zdw] at F8
 refine zb (zb (za ?_))
 refine s_mv ?_
 refine s_fa zZ ?_
 refine zp yA35 ?_
 refine zE yU35 ?_
 refine s_lt ?_
 refine zf (zd ?_)
 refine zn F8 ?_ ?_ <;> intro C19 F9
 refine zG 79 (fun B20 => ?_)
 refine zi (zd (zb (zl (zb (za ?_)))))
 refine s_fa zZ ?_
 refine zp yA35 ?_
 refine s_mv ?_
 obtain ⟨v21, V21, F10⟩ := zc F9
 refine zL Form.row V21 (Form.row_eq _) yE35 ?_
 refine zag yA37 yS37 ?_
 refine s_mv ?_
 refine s_sub rfl ?_
 obtain ⟨v22, V22, F11⟩ := zc F10
 refine zz [] (ih_m_spec_l1Is fu (by omega) _ _ _ V22) ?_
 refine zbC ?_
 refine zf (zd ?_)
 refine zn F11 ?_ ?_ <;> intro C23 F12
 refine zb (za ?_)
 refine s_as ?_
 refine zf (zd (zh (zj (zg (zu (zj (zg (zm ?_))))))))
 cases F12
 exact zk [] [] Tryz.results86
 refine zi (z6 (zd (za ?_)))
 refine s_mv ?_
 refine zI (zak C19 B20 hn_g17) ?_
 refine s_as ?_
 refine zf ?_
 exact s_rn (fu, (g17 + 1)) ⟨by first | omega | (dsimp only; omega), F12, by first | omega | (dsimp only; omega)⟩
 refine zB (zw (zr (zx (zd (zb (za ?_))))))
 refine s_as ?_
 refine zf (zd (zh (zm ?_)))
 cases F9
 exact zk [] [] Tryz.results86
end Go.Abs
