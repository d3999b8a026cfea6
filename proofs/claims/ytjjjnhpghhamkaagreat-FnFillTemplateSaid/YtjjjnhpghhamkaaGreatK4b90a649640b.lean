/- A part of the proof: what the functions that the law calls answer, as pure values. -/
import Derived.Test.YtjjjnhpghhamkaaGreatKac1bd4e93480
import Derived.Test.YtjjjnhpghhamkaaGreatK1aae968a2648
import Derived.Test.YtjjjnhpghhamkaaGreatK03b3262cfb9c
import Derived.Test.YtjjjnhpghhamkaaGreatK7ac0b3551e5d
import Derived.Test.YtjjjnhpghhamkaaGreatKf78df5a3dadb
import Derived.Test.YtjjjnhpghhamkaaGreatK17049cea853b
import Derived.Test.YtjjjnhpghhamkaaGreatKba44e2044c52
import Derived.Test.YtjjjnhpghhamkaaGreatK0fb172cd011e
import Derived.Test.YtjjjnhpghhamkaaGreatK886f62453d29
import Derived.Test.YtjjjnhpghhamkaaGreatKffe405a2eb68
import Derived.Test.YtjjjnhpghhamkaaGreatK6965184f9e71
set_option linter.unusedSimpArgs false
set_option linter.unusedVariables false
set_option maxRecDepth 100000
set_option maxHeartbeats 4000000
namespace Go.Abs
open Go.Proofs
def m_spec_l5Case_AC (fuel : Nat) : Prop := ∀ (x1 : (List Int)) (r : ((List Form) × (List Rule) × Form)), zfK fuel x1 = some r → AC Tryz.prog 102 [.t (.sl (x1.map rB))] noOb (.tp [.t (.sl (r.1.map Form.row)), .t (.sl (r.2.1.map Rule.row)), .ag [.t (.sc (.int .i64 r.2.2.kind)), .t (.sc (.str r.2.2.name)), .t (.sc (.int .i64 r.2.2.n)), .t (.sl (r.2.2.scopes.map rI)), .t (.sl (r.2.2.kids.map Form.row))]]) noOb
theorem m_spec_l5Case_ok (fuel : Nat) : m_spec_l5Case_AC fuel := by
 intro x1 r F0
 unfold zfK at F0
 refine AC_i [.t (.sl (r.1.map Form.row)), .t (.sl (r.2.1.map Rule.row)), .ag [.t (.sc (.int .i64 r.2.2.kind)), .t (.sc (.str r.2.2.name)), .t (.sc (.int .i64 r.2.2.n)), .t (.sl (r.2.2.scopes.map rI)), .t (.sl (r.2.2.kids.map Form.row))]] Tryz.func102 rfl Tryz.ntmps102 ?_
 intro C hC
 refine zb (za ?_)
 refine s_as ?_
 refine s_as ?_
 refine z6 yZ27 ?_
 refine zf (zd (zb (za ?_)))
 refine s_mv ?_
 obtain ⟨v1, V1, F1⟩ := zc F0
 refine z5 [(10, 14)] [] _ _ (zhd fuel _ _ V1) ?_
 refine s_as ?_
 refine zf (zd (zb (za ?_)))
 obtain ⟨v2, V2, F2⟩ := zc F1
 refine zv [] (m_spec_l5Texts_ok fuel _ V2) ?_
 refine s_as ?_
 refine zf (zd (zb (za ?_)))
 refine s_mv ?_
 refine s_mv ?_
 refine zE yU140 ?_
 obtain ⟨v3, V3, F3⟩ := zc F2
 refine z5 [(9000, 14)] [] _ _ (zQ fuel _ _ _ V3) ?_
 refine s_as ?_
 refine zf (zd (zb (za ?_)))
 refine s_mv ?_
 refine s_mv ?_
 obtain ⟨v4, V4, F4⟩ := zc F3
 refine zM (rL rS) V4 rfl yE140 ?_
 refine zu yA36 ?_
 obtain ⟨v5, V5, F5⟩ := zc F4
 refine zM rS V5 rfl yE36 ?_
 refine zu yA9 ?_
 obtain ⟨v6, V6, F6⟩ := zc F5
 refine zv [] (zdR fuel _ _ V6) ?_
 refine z6 yZ27 ?_
 refine zac yS27 ?_
 refine zf (zd ?_)
 refine zbk (α := Nat × (List Int) × Int × Int × ByteArray × Int × (List Int) × (List Form)) [27, 28, 29, 30, 31, 32, 33, 34] [8, 14] [] (fun a => []) (fun a => [(8, .box [.t (.sc (.int .i64 a.2.2.2.1)), .t (.sc (.str a.2.2.2.2.1)), .t (.sc (.int .i64 a.2.2.2.2.2.1)), .t (.sl (a.2.2.2.2.2.2.1.map rI)), .t (.sl (a.2.2.2.2.2.2.2.map Form.row))]), (14, .box [.t (.sl (a.2.1.map rB)), .t (.sc (.int .i64 a.2.2.1))])]) (fun a => a.1 ≤ fuel ∧ zci a.1 v2 v3 a.2.1 a.2.2.1 a.2.2.2.1 a.2.2.2.2.1 a.2.2.2.2.2.1 a.2.2.2.2.2.2.1 a.2.2.2.2.2.2.2 = some r) ?_ ?_
 refine zb (za ?_)
 refine s_mv ?_
 obtain ⟨v7, V7, F7⟩ := zc F6
 refine z5 [(9000, 14)] [] _ _ (zQ fuel _ _ _ V7) ?_
 refine s_eq ?_
 refine zf (zd ?_)
 refine zm F7 ?_ ?_ <;> intro C8 F8
 refine za ?_
 refine s_mv ?_
 refine s_mv ?_
 refine zI yA27 yS27 ?_
 obtain ⟨v9, V9, F9⟩ := zc F8
 refine z5 [(9000, 14)] [] _ _ (zcM fuel _ _ _ V9) ?_
 obtain ⟨v10, V10, F10⟩ := zc F9
 refine z5 [(9000, 14)] [] _ _ (zcM fuel _ _ _ V10) ?_
 refine zac yS27 ?_
 refine zf ?_
 exact s_jn (fuel, v10.2.b, v10.2.p, v10.1.kind, v10.1.name, v10.1.n, v10.1.scopes, v10.1.kids) ⟨by first | omega | (dsimp only; omega), F10⟩
 refine zi ?_
 exact s_jn (fuel, v7.2.b, v7.2.p, v6.kind, v6.name, v6.n, v6.scopes, v6.kids) ⟨by first | omega | (dsimp only; omega), F8⟩
 clear F6
 rintro ⟨fu, g11, g12, g13, g14, g15, g16, g17⟩ ⟨hl18, F7⟩
 dsimp only at hl18 F7 ⊢
 obtain _ | fu := fu
 · rw [zci] at F7; cases F7
 rw [zci] at F7
 refine zb (za ?_)
 refine zI yA27 yS27 ?_
 obtain ⟨v19, V19, F8⟩ := zc F7
 refine zv [] (zgs fu _ _ V19) ?_
 refine s_mv ?_
 iterate 3 refine zct ?_
 iterate 3 refine s_as ?_
 refine zf (zd ?_)
 refine zbk (α := Nat × (List Form) × (List Rule)) [9, 10, 41, 42, 43, 44, 45, 46, 47, 48, 49, 50, 51, 52, 53] [] [] (fun a => [(9, .t (.sl (a.2.1.map Form.row))), (10, .t (.sl (a.2.2.map Rule.row)))]) (fun a => []) (fun a => a.1 ≤ fu ∧ zcQ a.1 v2 v3 g11 g12 a.2.1 a.2.2 = some r) ?_ ?_
 refine zb (za ?_)
 refine s_mv ?_
 refine zbB ?_
 refine zf (zd ?_)
 refine zm F8 ?_ ?_ <;> intro C20 F9
 refine za ?_
 refine s_mv ?_
 obtain ⟨v21, V21, F10⟩ := zc F9
 refine zM (rL rS) V21 rfl yE140 ?_
 refine zu yA36 ?_
 obtain ⟨v22, V22, F11⟩ := zc F10
 refine zM rS V22 rfl yE36 ?_
 refine zu yA9 ?_
 obtain ⟨v23, V23, F12⟩ := zc F11
 refine zv [] (zdR fu _ _ V23) ?_
 obtain ⟨v24, V24, F13⟩ := zc F12
 refine zv [] (zgs fu _ _ V24) ?_
 refine s_mv ?_
 iterate 3 refine zct ?_
 refine s_as ?_
 refine s_as ?_
 refine zf ?_
 exact s_jn (fu, v24.1, v24.2.1) ⟨by first | omega | (dsimp only; omega), F13⟩
 refine zi ?_
 exact s_jn (fu, v19.1, v19.2.1) ⟨by first | omega | (dsimp only; omega), F9⟩
 clear F8
 rintro ⟨fu, g25, g26⟩ ⟨hl27, F9⟩
 dsimp only at hl27 F9 ⊢
 obtain _ | fu := fu
 · rw [zcQ] at F9; cases F9
 rw [zcQ] at F9
 refine zb (za ?_)
 refine s_mv ?_
 refine s_mv ?_
 obtain ⟨v28, V28, F10⟩ := zc F9
 refine zM (rL rS) V28 rfl yE140 ?_
 refine zu yA36 ?_
 obtain ⟨v29, V29, F11⟩ := zc F10
 refine zM rS V29 rfl yE36 ?_
 refine zu yA9 ?_
 obtain ⟨v30, V30, F12⟩ := zc F11
 refine zv [] (zdR fu _ _ V30) ?_
 refine z6 yZ27 ?_
 refine zac yS27 ?_
 refine zf (zd (zb (zb (za ?_))))
 refine s_mv ?_
 obtain ⟨v31, V31, F13⟩ := zc F12
 refine z5 [(9000, 14)] [] _ _ (zQ fu _ _ _ V31) ?_
 refine zf (zd (zk (zb (za ?_))))
 refine s_eq ?_
 refine s_as ?_
 refine zf (zd ?_)
 refine zm F13 ?_ ?_ <;> intro C32 F14
 refine za ?_
 iterate 3 refine s_mv ?_
 refine zE yU140 ?_
 obtain ⟨v33, V33, F15⟩ := zc F14
 refine z5 [(9000, 14)] [] _ _ (zQ fu _ _ _ V33) ?_
 obtain ⟨v34, V34, F16⟩ := zc F15
 refine zM (rL rS) V34 rfl yE140 ?_
 refine zu yA36 ?_
 obtain ⟨v35, V35, F17⟩ := zc F16
 refine zM rS V35 rfl yE36 ?_
 refine zu yA9 ?_
 obtain ⟨v36, V36, F18⟩ := zc F17
 refine zv [] (zdR fu _ _ V36) ?_
 refine zac yS27 ?_
 refine zf (zX (zd (zb ?_)))
 refine zW yMix (by kernel_rfl) ?_
 refine s_mv ?_
 refine s_mv ?_
 refine zI yA27 yS27 ?_
 refine s_as ?_
 refine s_as ?_
 refine zac yS27 ?_
 refine zak (by kernel_rfl) ?_
 refine zd (zh (zn ?_))
 cases F18
 exact zJ [] [] (by rw [Tryz.results102]; exact (zae (by conv => lhs; whnf) (zae (by conv => lhs; whnf) (z8 (by conv => lhs; whnf) (by conv => lhs; whnf) yA27 yS27 rfl zU))))
 refine zb (za ?_)
 refine s_eq ?_
 refine s_as ?_
 refine zf (zd ?_)
 refine zm F14 ?_ ?_ <;> intro C37 F15
 refine za ?_
 refine s_mv ?_
 refine s_mv ?_
 refine zI yA27 yS27 ?_
 obtain ⟨v38, V38, F16⟩ := zc F15
 refine z5 [(9000, 14)] [] _ _ (zcM fu _ _ _ V38) ?_
 obtain ⟨v39, V39, F17⟩ := zc F16
 refine z5 [(9000, 14)] [] _ _ (zcM fu _ _ _ V39) ?_
 refine zac yS27 ?_
 refine zf (zX (zd (zb ?_)))
 refine zW yMix (by kernel_rfl) ?_
 refine s_mv ?_
 refine s_mv ?_
 refine zI yA27 yS27 ?_
 refine s_as ?_
 refine s_as ?_
 refine zac yS27 ?_
 refine zak (by kernel_rfl) ?_
 refine zd (zh (zn ?_))
 cases F17
 exact zJ [] [] (by rw [Tryz.results102]; exact (zae (by conv => lhs; whnf) (zae (by conv => lhs; whnf) (z8 (by conv => lhs; whnf) (by conv => lhs; whnf) yA27 yS27 rfl zU))))
 refine zb (za ?_)
 refine s_eq ?_
 refine s_as ?_
 refine zf (zd ?_)
 refine zm F15 ?_ ?_ <;> intro C40 F16
 refine za ?_
 refine s_mv ?_
 refine zI yA27 yS27 ?_
 obtain ⟨v41, V41, F17⟩ := zc F16
 refine z5 [(9000, 14)] [] _ _ (m_spec_l1Dress_ok fu _ _ _ V41) ?_
 refine zac yS27 ?_
 refine zf (zX (zd (zb ?_)))
 refine zW yMix (by kernel_rfl) ?_
 refine s_mv ?_
 refine s_mv ?_
 refine zI yA27 yS27 ?_
 refine s_as ?_
 refine s_as ?_
 refine zac yS27 ?_
 refine zak (by kernel_rfl) ?_
 refine zd (zh (zn ?_))
 cases F17
 exact zJ [] [] (by rw [Tryz.results102]; exact (zae (by conv => lhs; whnf) (zae (by conv => lhs; whnf) (z8 (by conv => lhs; whnf) (by conv => lhs; whnf) yA27 yS27 rfl zU))))
 refine zi (zX (zd (zb ?_)))
 refine zW yMix (by kernel_rfl) ?_
 refine s_mv ?_
 refine s_mv ?_
 refine zI yA27 yS27 ?_
 refine s_as ?_
 refine s_as ?_
 refine zac yS27 ?_
 refine zak (by kernel_rfl) ?_
 refine zd (zh (zn ?_))
 cases F16
 exact zJ [] [] (by rw [Tryz.results102]; exact (zae (by conv => lhs; whnf) (zae (by conv => lhs; whnf) (z8 (by conv => lhs; whnf) (by conv => lhs; whnf) yA27 yS27 rfl zU))))
def zfl (fuel : Nat) : Prop := ∀ (o1 : za4) (x2 : Int) (r : (Form × za4)), zdw fuel o1 x2 = some r → AC Tryz.prog 162 [.rf 9000 0, .t (.sc (.int .i64 x2))] (objs [(9000, .box [.t (.sl (o1.b.map rB)), .t (.sc (.int .i64 o1.p))])]) (.ag [.t (.sc (.int .i64 r.1.kind)), .t (.sc (.str r.1.name)), .t (.sc (.int .i64 r.1.n)), .t (.sl (r.1.scopes.map rI)), .t (.sl (r.1.kids.map Form.row))]) (objs [(9000, .box [.t (.sl (r.2.b.map rB)), .t (.sc (.int .i64 r.2.p))])])
theorem m_spec_l1Some_st (fu : Nat) (ih_m_spec_l1Some : ∀ k, k ≤ fu → zfl k) : zfl (fu + 1) := by
 intro o1 x2 r F0
 rw [zdw] at F0
 refine AC_i [.ag [.t (.sc (.int .i64 r.1.kind)), .t (.sc (.str r.1.name)), .t (.sc (.int .i64 r.1.n)), .t (.sl (r.1.scopes.map rI)), .t (.sl (r.1.kids.map Form.row))]] Tryz.func162 rfl Tryz.ntmps162 ?_
 intro C hC
 refine zb (za ?_)
 refine z6 yZ27 ?_
 refine zf (zd (zb (zb (za ?_))))
 refine s_mv ?_
 refine s_eq ?_
 refine s_mv ?_
 refine zo _ 9 F0 ?_ ?_ <;> intro C1 F1
 iterate 3 refine r_no rfl ?_
 refine zA ?_
 refine zf (zd (zO rfl (zb (zb (za ?_)))))
 refine s_mv ?_
 obtain ⟨v2, V2, F2⟩ := zc F1
 refine z5 [(9000, 9000)] [] _ _ (zQ fu _ _ _ V2) ?_
 refine s_eq ?_
 refine zf (zd ?_)
 refine zm F2 ?_ ?_ <;> intro C3 F3
 refine zb (za ?_)
 refine s_mv ?_
 refine s_bs rI [0, 1, 2, 7, 42, 999] yP24 yR3 ?_
 obtain ⟨v4, V4, F4⟩ := zc F3
 refine z5 [(9000, 9000)] [18] _ _ (zbp fu _ _ _ V4) ?_
 refine zeH yZ27 yL27 ?_
 refine zac yS27 ?_
 refine zf (zd (zh (zg (zg (zn ?_)))))
 cases F4
 exact zJ _ [] (by rw [Tryz.results162]; exact (z8 (by conv => lhs; whnf) (by conv => lhs; whnf) yA27 yS27 rfl zU))
 refine zi (zd (zb (za ?_)))
 refine s_mv ?_
 refine s_bs rS [(⟨#[97]⟩ : ByteArray), (⟨#[98]⟩ : ByteArray), (⟨#[120]⟩ : ByteArray), (⟨#[121]⟩ : ByteArray), (⟨#[102]⟩ : ByteArray), (⟨#[105, 102]⟩ : ByteArray), (⟨#[108, 101, 116]⟩ : ByteArray), (⟨#[43]⟩ : ByteArray)] yP36 yR9 ?_
 obtain ⟨v5, V5, F4⟩ := zc F3
 refine z5 [(9000, 9000)] [22] _ _ (zdx fu _ _ _ V5) ?_
 obtain ⟨v6, V6, F5⟩ := zc F4
 refine zv [] (m_spec_l1Name_ok fu _ _ V6) ?_
 refine zac yS27 ?_
 refine zf (zd (zh (zg (zn ?_))))
 cases F5
 exact zJ _ [] (by rw [Tryz.results162]; exact (z8 (by conv => lhs; whnf) (by conv => lhs; whnf) yA27 yS27 rfl zU))
 refine s_mv ?_
 obtain ⟨v7, V7, F2⟩ := zc F1
 refine z5 [(9000, 9000)] [] _ _ (zQ fu _ _ _ V7) ?_
 refine s_eq ?_
 refine zB ?_
 refine zf (zd ?_)
 refine zm F2 ?_ ?_ <;> intro C8 F3
 refine zb (zb (za ?_))
 refine s_mv ?_
 obtain ⟨v9, V9, F4⟩ := zc F3
 refine z5 [(9000, 9000)] [] _ _ (zQ fu _ _ _ V9) ?_
 refine s_eq ?_
 refine zf (zd ?_)
 refine zm F4 ?_ ?_ <;> intro C10 F5
 refine zb (za ?_)
 refine s_mv ?_
 refine s_bs rI [0, 1, 2, 7, 42, 999] yP24 yR3 ?_
 obtain ⟨v11, V11, F6⟩ := zc F5
 refine z5 [(9000, 9000)] [18] _ _ (zbp fu _ _ _ V11) ?_
 refine zeH yZ27 yL27 ?_
 refine zac yS27 ?_
 refine zf (zd (zh (zg (zg (zn ?_)))))
 cases F6
 exact zJ _ [] (by rw [Tryz.results162]; exact (z8 (by conv => lhs; whnf) (by conv => lhs; whnf) yA27 yS27 rfl zU))
 refine zi (zd (zb (za ?_)))
 refine s_mv ?_
 refine s_bs rS [(⟨#[97]⟩ : ByteArray), (⟨#[98]⟩ : ByteArray), (⟨#[120]⟩ : ByteArray), (⟨#[121]⟩ : ByteArray), (⟨#[102]⟩ : ByteArray), (⟨#[105, 102]⟩ : ByteArray), (⟨#[108, 101, 116]⟩ : ByteArray), (⟨#[43]⟩ : ByteArray)] yP36 yR9 ?_
 obtain ⟨v12, V12, F6⟩ := zc F5
 refine z5 [(9000, 9000)] [22] _ _ (zdx fu _ _ _ V12) ?_
 obtain ⟨v13, V13, F7⟩ := zc F6
 refine zv [] (m_spec_l1Name_ok fu _ _ V13) ?_
 refine zac yS27 ?_
 refine zf (zd (zh (zg (zn ?_))))
 cases F7
 exact zJ _ [] (by rw [Tryz.results162]; exact (z8 (by conv => lhs; whnf) (by conv => lhs; whnf) yA27 yS27 rfl zU))
 refine zi (zd (zb (za ?_)))
 refine zeH yZ27 yL27 ?_
 refine z6 yZ27 ?_
 refine zac yS27 ?_
 refine zf (zd (zb (zb (za ?_))))
 refine s_mv ?_
 obtain ⟨v14, V14, F4⟩ := zc F3
 refine z5 [(9000, 9000)] [] _ _ (zQ fu _ _ _ V14) ?_
 refine s_as ?_
 refine zf (zd (zk ?_))
 refine zgZ 5 5020 27 [.t (.sc (.int .i64 3)), .t (.sc (.str (⟨#[]⟩ : ByteArray))), .t (.sc (.int .i64 0)), .nl, .ar 5020] yI27.choose_spec ?_
 refine zao [6, 28, 29, 30, 31, 32, 33, 34, 35, 36, 37, 38, 39, 40] [5, 5020, 9000] [38, 39] [5020] (fun a : Nat × Int × (List Int) × Int × (List Form) => a.1) (fun a : Nat × Int × (List Int) × Int × (List Form) => [(6, .t (.sc (.int .i64 a.2.1)))]) (fun a : Nat × Int × (List Int) × Int × (List Form) => [(5, .box [.t (.sc (.int .i64 3)), .t (.sc (.str (⟨#[]⟩ : ByteArray))), .t (.sc (.int .i64 0)), .nl, .ar 5020]), (5020, .arr (a.2.2.2.2.map Form.row) 27 true), (9000, .box [.t (.sl (a.2.2.1.map rB)), .t (.sc (.int .i64 a.2.2.2.1))])]) (fun a : Nat × Int × (List Int) × Int × (List Form) => a.1 ≤ fu ∧ zcm a.1 x2 a.2.1 a.2.2.1 a.2.2.2.1 a.2.2.2.2 = some r) (fu, v14.1, v14.2.b, v14.2.p, ([] : List Form)) ⟨Nat.le_refl _, F4⟩ (by rfl) (by rfl) (fun _ => rfl) (zG (by conv => lhs; whnf) (by rfl) za3) (zV (by conv => lhs; whnf) (by rfl) (zV (by conv => lhs; whnf) (by rfl) (zV (by conv => lhs; whnf) (by rfl) zaU))) (zb8 hC rfl) (by repeat (first | exact zag rfl | refine zau rfl ?_ | refine zZ rfl ?_)) (by repeat (first | exact zaI | exact zal rfl | refine zav rfl ?_ | refine z4 rfl ?_)) ?_
 clear F4
 rintro ⟨fu, g15, g16, g17, g18⟩ ⟨hl19, F5⟩
 dsimp only at hl19 F5 ⊢
 obtain _ | fu := fu
 · rw [zcm] at F5; cases F5
 rw [zcm] at F5
 refine zb (zb (za ?_))
 refine s_mv ?_
 refine s_gt ?_
 refine zf (zd ?_)
 refine zm F5 ?_ ?_ <;> intro C20 F6
 refine zi (zd (zb (zk ?_)))
 refine zW yMix (by kernel_rfl) ?_
 refine s_fa zH ?_
 refine zu yA25 ?_
 refine s_mv ?_
 refine s_mv ?_
 refine zg4 rfl ?_
 obtain ⟨v21, V21, F7⟩ := zc F6
 refine z5 [(9000, 9000)] [] _ _ (ih_m_spec_l1Some fu (by omega) _ _ _ V21) ?_
 refine s_bs Form.row [v21.1] yP25 yR27 ?_
 obtain ⟨hk22, F8⟩ := zah F7
 refine zdX Form.row (fun y => Form.row_len y) hk22 yP25 ?_
 refine s_fa zH ?_
 refine zgK yS25 ?_
 refine zak (by kernel_rfl) ?_
 refine zX (zd (za ?_))
 refine s_mv ?_
 refine zg4 rfl ?_
 refine s_as ?_
 refine zf ?_
 exact s_rn (fu, (w64 (g15 - 1)), v21.2.b, v21.2.p, (g18 ++ [v21.1])) ⟨by first | omega | (dsimp only; omega), F8⟩ [(5020, 39)]
 refine zz (zq (zp (zr (zd (zb (za ?_))))))
 refine zI yA27 yS27 ?_
 refine zac yS27 ?_
 refine zf (zd (zh (zn ?_)))
 cases F6
 exact zJ _ [5020] (by rw [Tryz.results162]; exact (z8 (by conv => lhs; whnf) (by conv => lhs; whnf) yA27 yS27 rfl zU))
theorem m_spec_l1Some_all (fuel : Nat) : zfl fuel := by
 induction fuel using Nat.strongRecOn with
 | _ N ih =>
   cases N with
   | zero => exact (by intro o1 x2 r h; rw [zdw] at h; cases h)
   | succ fu => exact m_spec_l1Some_st fu (fun k hk => (ih k (by omega)))
theorem m_spec_l1Some_ok (fuel : Nat) : zfl fuel := (m_spec_l1Some_all fuel)
def m_spec_l5Hits_AC (fuel : Nat) : Prop := ∀ (x1 : (List Int)) (r : (Form × (List Hit))), zfJ fuel x1 = some r → AC Tryz.prog 108 [.t (.sl (x1.map rB))] noOb (.tp [.ag [.t (.sc (.int .i64 r.1.kind)), .t (.sc (.str r.1.name)), .t (.sc (.int .i64 r.1.n)), .t (.sl (r.1.scopes.map rI)), .t (.sl (r.1.kids.map Form.row))], .t (.sl (r.2.map Hit.row))]) noOb
theorem m_spec_l5Hits_ok (fuel : Nat) : m_spec_l5Hits_AC fuel := by
 intro x1 r F0
 unfold zfJ at F0
 refine AC_i [.ag [.t (.sc (.int .i64 r.1.kind)), .t (.sc (.str r.1.name)), .t (.sc (.int .i64 r.1.n)), .t (.sl (r.1.scopes.map rI)), .t (.sl (r.1.kids.map Form.row))], .t (.sl (r.2.map Hit.row))] Tryz.func108 rfl Tryz.ntmps108 ?_
 intro C hC
 refine zb (za ?_)
 refine z6 yZ27 ?_
 refine s_as ?_
 refine zf (zd (zb (za ?_)))
 refine s_mv ?_
 obtain ⟨v1, V1, F1⟩ := zc F0
 refine zv [] (m_spec_l5Case_ok fuel _ _ V1) ?_
 refine s_mv ?_
 iterate 3 refine zct ?_
 refine z6 yZ27 ?_
 refine s_as ?_
 refine s_as ?_
 refine zac yS27 ?_
 refine zf (zd (zb (za ?_)))
 refine s_mv ?_
 obtain ⟨v2, V2, F2⟩ := zc F1
 refine z5 [(10, 20)] [] _ _ (zhd fuel _ _ V2) ?_
 refine s_as ?_
 refine zf (zd (zb (za ?_)))
 refine s_bs Bind.row ([] : List Bind) yP23 yR93 ?_
 refine s_mv ?_
 refine s_mv ?_
 refine zI yA27 yS27 ?_
 obtain ⟨v3, V3, F3⟩ := zc F2
 refine zv [22] (m_spec_FirstRule_ok fuel _ _ _ _ _ V3) ?_
 refine s_mv ?_
 refine zct ?_
 refine zct ?_
 refine s_as ?_
 refine s_as ?_
 refine zf (zd (zb (zb (za ?_))))
 refine s_mv ?_
 refine zbB ?_
 refine zf (zd ?_)
 refine zm F3 ?_ ?_ <;> intro C4 F4
 refine zb (za ?_)
 refine s_mv ?_
 obtain ⟨v5, V5, F5⟩ := zc F4
 refine z5 [(9000, 20)] [] _ _ (m_spec_l1Some_ok fuel _ _ _ V5) ?_
 refine s_bs Hit.row ([] : List Hit) yP30 yR40 ?_
 refine zac yS27 ?_
 refine s_as ?_
 refine zf (zd (zh (zg (zn ?_))))
 cases F5
 exact zJ [] [33] (by rw [Tryz.results108]; exact (z8 (by conv => lhs; whnf) (by conv => lhs; whnf) yA27 yS27 rfl (zae (by conv => lhs; whnf) zU)))
 refine zi (zd (zb ?_))
 refine zW yMix (by kernel_rfl) ?_
 refine s_bs Bind.row ([] : List Bind) yP23 yR93 ?_
 refine s_mv ?_
 refine s_mv ?_
 obtain ⟨v6, V6, F5⟩ := zc F4
 refine zM Rule.row V6 (Rule.row_eq _) yE62 ?_
 refine s_fa yF73_0 ?_
 refine zan yA27 yS27 ?_
 refine s_mv ?_
 refine zI yA27 yS27 ?_
 obtain ⟨v7, V7, F6⟩ := zc F5
 refine z5 [(9200, 2043)] [35] _ _ (m_spec_MatchPattern_ok fuel _ _ _ _ _ V7) ?_
 refine s_mv ?_
 refine zct ?_
 refine zct ?_
 refine s_as ?_
 refine s_as ?_
 refine zak (by kernel_rfl) ?_
 refine zd (zb (za ?_))
 refine s_mv ?_
 refine s_mv ?_
 obtain ⟨v8, V8, F7⟩ := zc F6
 refine zM Rule.row V8 (Rule.row_eq _) yE62 ?_
 refine s_fa yF73_1 ?_
 refine zan yA27 yS27 ?_
 obtain ⟨v9, V9, F8⟩ := zc F7
 refine z5 [(9203, 2051), (9204, 12051)] [] _ _ (zbQ fuel _ _ V9) ?_
 refine z6 yZ27 ?_
 refine zac yS27 ?_
 refine zf (zd (zb (zb (za ?_))))
 refine s_mv ?_
 obtain ⟨v10, V10, F9⟩ := zc F8
 refine z5 [(9000, 20)] [] _ _ (zQ fuel _ _ _ V10) ?_
 refine zf (zd (zk (zb (za ?_))))
 refine s_eq ?_
 refine s_as ?_
 refine zf (zd ?_)
 refine zm F9 ?_ ?_ <;> intro C11 F10
 refine za ?_
 refine s_mv ?_
 refine s_mv ?_
 refine zI yA27 yS27 ?_
 obtain ⟨v12, V12, F11⟩ := zc F10
 refine z5 [(9000, 20)] [2051, 12051] _ _ (zcM fuel _ _ _ V12) ?_
 obtain ⟨v13, V13, F12⟩ := zc F11
 refine z5 [(9000, 20)] [] _ _ (zcM fuel _ _ _ V13) ?_
 refine zac yS27 ?_
 refine zf (zX (zd (zb (za ?_))))
 refine zI yA27 yS27 ?_
 refine s_mv ?_
 refine zac yS27 ?_
 refine s_as ?_
 refine zf (zd (zh (zn ?_)))
 cases F12
 exact zJ [] [2043] (by rw [Tryz.results108]; exact (z8 (by conv => lhs; whnf) (by conv => lhs; whnf) yA27 yS27 rfl (zae (by conv => lhs; whnf) zU)))
 refine zb (za ?_)
 refine s_eq ?_
 refine s_as ?_
 refine zf (zd ?_)
 refine zm F10 ?_ ?_ <;> intro C14 F11
 refine za ?_
 refine s_mv ?_
 refine s_bs rS [(⟨#[40, 97, 32, 46, 46, 46, 41]⟩ : ByteArray), (⟨#[40, 120, 32, 46, 46, 46, 32, 46, 46, 46, 41]⟩ : ByteArray), (⟨#[46, 46, 46]⟩ : ByteArray), (⟨#[40, 49, 32, 46, 46, 46, 41]⟩ : ByteArray), (⟨#[40, 113, 32, 40, 97, 32, 98, 41, 32, 46, 46, 46, 41]⟩ : ByteArray)] yP36 yR9 ?_
 obtain ⟨v15, V15, F12⟩ := zc F11
 refine z5 [(9000, 20)] [64] _ _ (zdx fuel _ _ _ V15) ?_
 obtain ⟨v16, V16, F13⟩ := zc F12
 refine zv [] (zdR fuel _ _ V16) ?_
 refine zac yS27 ?_
 refine zf (zX (zd (zb (za ?_))))
 refine zI yA27 yS27 ?_
 refine s_mv ?_
 refine zac yS27 ?_
 refine s_as ?_
 refine zf (zd (zh (zn ?_)))
 cases F13
 exact zJ [] [2043] (by rw [Tryz.results108]; exact (z8 (by conv => lhs; whnf) (by conv => lhs; whnf) yA27 yS27 rfl (zae (by conv => lhs; whnf) zU)))
 refine zi (zX (zd (zb (za ?_))))
 refine zI yA27 yS27 ?_
 refine s_mv ?_
 refine zac yS27 ?_
 refine s_as ?_
 refine zf (zd (zh (zn ?_)))
 cases F11
 exact zJ [] [2051, 12051, 2043] (by rw [Tryz.results108]; exact (z8 (by conv => lhs; whnf) (by conv => lhs; whnf) yA27 yS27 rfl (zae (by conv => lhs; whnf) zU)))
def zgM (fuel : Nat) : Prop := ∀ (x1 : (List Int)) (r : (Form × (List Hit))), zc1 fuel x1 = some r → AC Tryz.prog 50 [.t (.sl (x1.map rB))] noOb (.tp [.ag [.t (.sc (.int .i64 r.1.kind)), .t (.sc (.str r.1.name)), .t (.sc (.int .i64 r.1.n)), .t (.sl (r.1.scopes.map rI)), .t (.sl (r.1.kids.map Form.row))], .t (.sl (r.2.map Hit.row))]) noOb
theorem zgL (fuel : Nat) : zgM fuel := by
 intro x1 r F0
 unfold zc1 at F0
 refine AC_i [.ag [.t (.sc (.int .i64 r.1.kind)), .t (.sc (.str r.1.name)), .t (.sc (.int .i64 r.1.n)), .t (.sl (r.1.scopes.map rI)), .t (.sl (r.1.kids.map Form.row))], .t (.sl (r.2.map Hit.row))] Tryz.func50 rfl Tryz.ntmps50 ?_
 intro C hC
 refine zb (za ?_)
 refine z6 yZ27 ?_
 refine s_as ?_
 refine zf (zd (zb (za ?_)))
 refine s_mv ?_
 obtain ⟨v1, V1, F1⟩ := zc F0
 refine zv [] (m_spec_l5Hits_ok fuel _ _ V1) ?_
 refine zct ?_
 refine zct ?_
 refine zac yS27 ?_
 refine s_as ?_
 refine zf (zd (zh (zn ?_)))
 cases F1
 exact zJ [] [] (by rw [Tryz.results50]; exact (z8 (by conv => lhs; whnf) (by conv => lhs; whnf) yA27 yS27 rfl (zae (by conv => lhs; whnf) zU)))
def m_impl_hitVars_AC (fuel : Nat) : Prop := ∀ (x1 : (List Hit)) (r : ((List Form) × (List Int))), zfc fuel x1 = some r → AC Tryz.prog 115 [.t (.sl (x1.map Hit.row))] noOb (.tp [.t (.sl (r.1.map Form.row)), .t (.sl (r.2.map rI))]) noOb
theorem m_impl_hitVars_ok (fuel : Nat) : m_impl_hitVars_AC fuel := by
 intro x1 r F0
 unfold zfc at F0
 refine AC_i [.t (.sl (r.1.map Form.row)), .t (.sl (r.2.map rI))] Tryz.func115 rfl Tryz.ntmps115 ?_
 intro C hC
 refine zb (za ?_)
 refine s_as ?_
 refine s_as ?_
 refine zf (zd (zb (za ?_)))
 refine s_bs Form.row ([] : List Form) yP25 yR27 ?_
 refine s_bs rI ([] : List Int) yP24 yR3 ?_
 refine s_as ?_
 refine s_as ?_
 refine zf (zd (zb (zb (za ?_))))
 refine s_mv ?_
 refine zE yU30 ?_
 refine s_mv ?_
 refine zf (zd (zk ?_))
 refine zdG 4 8 5020 (by conv => lhs; whnf) (by conv => lhs; whnf) rfl ?_
 refine zdG 5 9 5021 (by conv => lhs; whnf) (by conv => lhs; whnf) rfl ?_
 refine zao [4, 5, 7, 12, 13, 14, 15, 16, 17, 18, 19, 20, 21, 22, 23, 24, 25, 26] [5020, 5021] [7, 19, 20, 24, 25] [5020, 5021] (fun a : Nat × (List Form) × (List Int) × Int => a.1) (fun a : Nat × (List Form) × (List Int) × Int => [(4, .ar 5020), (5, .ar 5021), (12, .t (.sc (.int .i64 a.2.2.2)))]) (fun a : Nat × (List Form) × (List Int) × Int => [(5020, .arr (a.2.1.map Form.row) 27 true), (5021, .arr (a.2.2.1.map rI) 3 true)]) (fun a : Nat × (List Form) × (List Int) × Int => a.1 ≤ fuel ∧ zbZ a.1 x1 a.2.1 a.2.2.1 a.2.2.2 = some r ∧ 0 ≤ a.2.2.2) (fuel, ([] : List Form), ([] : List Int), 0) ⟨Nat.le_refl _, F0, by simp⟩ (by rfl) (by rfl) (fun _ => rfl) (zG (by conv => lhs; whnf) (by rfl) (zG (by conv => lhs; whnf) (by rfl) (zG (by conv => lhs; whnf) (by rfl) za3))) (zV (by conv => lhs; whnf) (by rfl) (zV (by conv => lhs; whnf) (by rfl) zaU)) (zb8 hC rfl) (by repeat (first | exact zag rfl | refine zau rfl ?_ | refine zZ rfl ?_)) (by repeat (first | exact zaI | exact zal rfl | refine zav rfl ?_ | refine z4 rfl ?_)) ?_
 clear F0
 rintro ⟨fu, g1, g2, g3⟩ ⟨hl4, F1, hn_g3⟩
 dsimp only at hl4 F1 hn_g3 ⊢
 obtain _ | fu := fu
 · rw [zbZ] at F1; cases F1
 rw [zbZ] at F1
 refine zb (za ?_)
 refine s_lt ?_
 refine zf (zd (zb ?_))
 refine zm F1 ?_ ?_ <;> intro C5 F2
 refine zT 0 (fun B6 => ?_)
 refine zi (zd (zb (zk (zb (za ?_)))))
 obtain ⟨v7, V7, F3⟩ := zc F2
 refine zM Hit.row V7 (Hit.row_eq _) yE30 ?_
 refine zan yA40 yS40 ?_
 refine z6 yZ40 ?_
 refine zac yS40 ?_
 refine zf (zd ?_)
 refine zW yMix (by kernel_rfl) ?_
 refine s_mv ?_
 refine s_fa ze4 ?_
 refine zan yA27 yS27 ?_
 refine s_bs Form.row [v7.name] yP25 yR27 ?_
 obtain ⟨hk8, F4⟩ := zah F3
 refine zdX Form.row (fun y => Form.row_len y) hk8 yP25 ?_
 refine s_mv ?_
 refine s_fa zf0 ?_
 refine zu yA3 ?_
 refine s_bs rI [v7.depth] yP24 yR3 ?_
 obtain ⟨hk9, F5⟩ := zah F4
 refine zdX rI (fun _ => rfl) hk9 yP24 ?_
 refine s_as ?_
 refine s_as ?_
 refine zak (by kernel_rfl) ?_
 refine zX (zd (za ?_))
 refine zN (zaz C5 B6 hn_g3) ?_
 refine s_mv ?_
 refine zf ?_
 exact s_rn (fu, (g1 ++ [v7.name]), (g2 ++ [v7.depth]), (g3 + 1)) ⟨by first | omega | (dsimp only; omega), F5, by first | omega | (dsimp only; omega)⟩ [(5020, 20), (5021, 25)]
 refine zz (zq (zp (zr (zd (zb (za ?_))))))
 refine s_mv ?_
 refine s_mv ?_
 refine s_as ?_
 refine s_as ?_
 refine zf (zd (zh (zn ?_)))
 cases F2
 exact zl [] [5020, 5021] Tryz.results115
def zhu (fuel : Nat) : Prop := ∀ (x1 : Form) (x2 : (List Hit)) (r : Bool), zca fuel x1 x2 = some r → AC Tryz.prog 54 [.ag [.t (.sc (.int .i64 x1.kind)), .t (.sc (.str x1.name)), .t (.sc (.int .i64 x1.n)), .t (.sl (x1.scopes.map rI)), .t (.sl (x1.kids.map Form.row))], .t (.sl (x2.map Hit.row))] noOb (.t (.sc (.bool r))) noOb
theorem zfW (fuel : Nat) : zhu fuel := by
 intro x1 x2 r F0
 unfold zca at F0
 refine AC_i [.t (.sc (.bool r))] Tryz.func54 rfl Tryz.ntmps54 ?_
 intro C hC
 refine zb (za ?_)
 refine zbf ?_
 refine s_as ?_
 refine zf (zd (zb (za ?_)))
 refine s_mv ?_
 obtain ⟨v1, V1, F1⟩ := zc F0
 refine zv [] (m_impl_hitVars_ok fuel _ _ V1) ?_
 refine s_mv ?_
 refine zct ?_
 refine zct ?_
 refine s_as ?_
 refine s_as ?_
 refine zf (zd (zb (za ?_)))
 refine s_mv ?_
 obtain ⟨v2, V2, F2⟩ := zc F1
 refine zv [] (m_impl_HitsValid_ok fuel _ _ V2) ?_
 refine s_mv ?_
 refine zo _ 14 F2 ?_ ?_ <;> intro C3 F3
 refine zI yA27 yS27 ?_
 refine s_mv ?_
 refine s_mv ?_
 obtain ⟨v4, V4, F4⟩ := zc F3
 refine zv [] (m_impl_templateOk_ok fuel _ _ _ _ V4) ?_
 refine zA ?_
 refine s_as ?_
 refine zf (zd (zh (zn ?_)))
 cases F4
 exact zl [] [] Tryz.results54
 iterate 4 refine r_no rfl ?_
 refine zB ?_
 refine s_as ?_
 refine zf (zd (zh (zn ?_)))
 cases F3
 exact zl [] [] Tryz.results54
def m_impl_fill_2_AC (fuel : Nat) : Prop := ∀ (x1 : Form) (o1 : Bool) (o2 : Hit) (r : Bool), zgy fuel x1 o1 o2 = some r → AC Tryz.prog 166 [.ag [.t (.sc (.int .i64 x1.kind)), .t (.sc (.str x1.name)), .t (.sc (.int .i64 x1.n)), .t (.sl (x1.scopes.map rI)), .t (.sl (x1.kids.map Form.row))], .rf 9000 0, .rf 9001 0] (objs [(9000, .box [.t (.sc (.bool o1))]), (9001, .box [.t (.sc (.int .i64 o2.name.kind)), .t (.sc (.str o2.name.name)), .t (.sc (.int .i64 o2.name.n)), .t (.sl (o2.name.scopes.map rI)), .t (.sl (o2.name.kids.map Form.row)), .t (.sc (.int .i64 o2.depth)), .t (.sc (.int .i64 o2.one.kind)), .t (.sc (.str o2.one.name)), .t (.sc (.int .i64 o2.one.n)), .t (.sl (o2.one.scopes.map rI)), .t (.sl (o2.one.kids.map Form.row)), .t (.sl (o2.many.map Hit.row))])]) (.tp []) (objs [(9000, .box [.t (.sc (.bool r))]), (9001, .box [.t (.sc (.int .i64 o2.name.kind)), .t (.sc (.str o2.name.name)), .t (.sc (.int .i64 o2.name.n)), .t (.sl (o2.name.scopes.map rI)), .t (.sl (o2.name.kids.map Form.row)), .t (.sc (.int .i64 o2.depth)), .t (.sc (.int .i64 o2.one.kind)), .t (.sc (.str o2.one.name)), .t (.sc (.int .i64 o2.one.n)), .t (.sl (o2.one.scopes.map rI)), .t (.sl (o2.one.kids.map Form.row)), .t (.sl (o2.many.map Hit.row))])])
theorem m_impl_fill_2_ok (fuel : Nat) : m_impl_fill_2_AC fuel := by
 intro x1 o1 o2 r F0
 unfold zgy at F0
 refine AC_i [] Tryz.func166 rfl Tryz.ntmps166 ?_
 intro C hC
 refine zb (za ?_)
 refine zbf ?_
 refine zf (zd (za ?_))
 refine zu yA4 ?_
 refine s_mv ?_
 refine zo _ 5 F0 ?_ ?_ <;> intro C1 F1
 iterate 4 refine r_no rfl ?_
 refine zA ?_
 refine zac yS4 ?_
 refine zf (zhh ?_)
 cases F1
 exact zl _ [] Tryz.results166
 refine zI yA27 yS27 ?_
 refine s_fa ze4 ?_
 refine zan yA27 yS27 ?_
 obtain ⟨v2, V2, F2⟩ := zc F1
 refine zv [] (zbj fuel _ _ _ V2) ?_
 refine zB ?_
 refine zac yS4 ?_
 refine zf (zhh ?_)
 cases F2
 exact zl _ [] Tryz.results166
def zcD (fuel : Nat) : Prop := ∀ (x1 : Form) (o1 : Bool) (o2 : Hit) (r : Bool), zaO fuel x1 o1 o2 = some r → AC Tryz.prog 78 [.ag [.t (.sc (.int .i64 x1.kind)), .t (.sc (.str x1.name)), .t (.sc (.int .i64 x1.n)), .t (.sl (x1.scopes.map rI)), .t (.sl (x1.kids.map Form.row))], .fn 166 [.rf 9000 0, .rf 9001 0]] (objs [(9000, .box [.t (.sc (.bool o1))]), (9001, .box [.t (.sc (.int .i64 o2.name.kind)), .t (.sc (.str o2.name.name)), .t (.sc (.int .i64 o2.name.n)), .t (.sl (o2.name.scopes.map rI)), .t (.sl (o2.name.kids.map Form.row)), .t (.sc (.int .i64 o2.depth)), .t (.sc (.int .i64 o2.one.kind)), .t (.sc (.str o2.one.name)), .t (.sc (.int .i64 o2.one.n)), .t (.sl (o2.one.scopes.map rI)), .t (.sl (o2.one.kids.map Form.row)), .t (.sl (o2.many.map Hit.row))])]) (.tp []) (objs [(9000, .box [.t (.sc (.bool r))]), (9001, .box [.t (.sc (.int .i64 o2.name.kind)), .t (.sc (.str o2.name.name)), .t (.sc (.int .i64 o2.name.n)), .t (.sl (o2.name.scopes.map rI)), .t (.sl (o2.name.kids.map Form.row)), .t (.sc (.int .i64 o2.depth)), .t (.sc (.int .i64 o2.one.kind)), .t (.sc (.str o2.one.name)), .t (.sc (.int .i64 o2.one.n)), .t (.sl (o2.one.scopes.map rI)), .t (.sl (o2.one.kids.map Form.row)), .t (.sl (o2.many.map Hit.row))])])
theorem zg0 (fu : Nat) (ih_m_impl_eachForm_fill_2 : ∀ k, k ≤ fu → zcD k) : zcD (fu + 1) := by
 intro x1 o1 o2 r F0
 rw [zaO] at F0
 refine AC_i [] Tryz.func78 rfl Tryz.ntmps78 ?_
 intro C hC
 refine zb (za ?_)
 refine zbf ?_
 refine zf (zd (zb (za ?_)))
 refine s_mv ?_
 refine zI yA27 yS27 ?_
 obtain ⟨v1, V1, F1⟩ := zc F0
 refine z5 [(9000, 9000), (9001, 9001)] [] _ _ (m_impl_fill_2_ok fu _ _ _ _ V1) ?_
 refine zf (zd (zb (za ?_)))
 refine s_fa zH ?_
 refine zu yA25 ?_
 refine zE yU25 ?_
 refine s_mv ?_
 refine zf (zd (zk ?_))
 refine za1 (β := Int × Bool) [5, 12, 13, 14, 15, 16, 17, 18, 19] [9000] [5] (fun a => [(12, .t (.sc (.int .i64 a.2.1)))]) (fun a => [(9000, .box [.t (.sc (.bool a.2.2))])]) (fun a => a.1 ≤ fu ∧ zax a.1 x1 o2 a.2.1 a.2.2 = some r ∧ 0 ≤ a.2.1) (fu, 0, v1) ⟨Nat.le_refl _, F1, by simp⟩ ?_
 clear F1
 rintro ⟨fu, g2, g3⟩ ⟨hl4, F2, hn_g2⟩
 dsimp only at hl4 F2 hn_g2 ⊢
 obtain _ | fu := fu
 · rw [zax] at F2; cases F2
 rw [zax] at F2
 refine zb (za ?_)
 refine s_lt ?_
 refine zf (zd (zb ?_))
 refine zm F2 ?_ ?_ <;> intro C5 F3
 refine zT 10 (fun B6 => ?_)
 refine zi (zd (zb (zk (zb (za ?_)))))
 obtain ⟨v7, V7, F4⟩ := zc F3
 refine zM Form.row V7 (Form.row_eq _) yE25 ?_
 refine zan yA27 yS27 ?_
 refine z6 yZ27 ?_
 refine zac yS27 ?_
 refine zf (zd (za ?_))
 refine zI yA27 yS27 ?_
 refine s_mv ?_
 obtain ⟨v8, V8, F5⟩ := zc F4
 refine z5 [(9000, 9000), (9001, 9001)] [] _ _ (ih_m_impl_eachForm_fill_2 fu (by omega) _ _ _ _ V8) ?_
 refine zf (zX (zd (za ?_)))
 refine zN (zaz C5 B6 hn_g2) ?_
 refine s_mv ?_
 refine zf ?_
 exact s_rn (fu, (g2 + 1), v8) ⟨by first | omega | (dsimp only; omega), F5, by first | omega | (dsimp only; omega)⟩
 refine zz (zq (zp (zr (zhh ?_))))
 cases F3
 exact zl _ [] Tryz.results78
theorem zgN (fuel : Nat) : zcD fuel := by
 induction fuel using Nat.strongRecOn with
 | _ N ih =>
   cases N with
   | zero => exact (by intro x1 o1 o2 r h; rw [zaO] at h; cases h)
   | succ fu => exact zg0 fu (fun k hk => (ih k (by omega)))
theorem zg1 (fuel : Nat) : zcD fuel := (zgN fuel)
def m_slices_Clone_Hit_AC (fuel : Nat) : Prop := ∀ (x1 : (List Hit)) (r : (List Hit)), zeD fuel x1 = some r → AC Tryz.prog 167 [.t (.sl (x1.map Hit.row))] (objs []) (.ar 9200) (objs [(9200, .arr (r.map Hit.row) 40 true)])
theorem m_slices_Clone_Hit_ok (fuel : Nat) : m_slices_Clone_Hit_AC fuel := by
 intro x1 r F0
 unfold zeD at F0
 refine AC_i [.ar 9200] Tryz.func167 rfl Tryz.ntmps167 ?_
 intro C hC
 refine awp_nil 0 (fun hz => ?_) ?_
 replace hz := List.map_eq_nil_iff.mp hz; subst hz; obtain ⟨_, F1⟩ := zah F0
 refine zb (za ?_)
 refine s_as ?_
 refine zf (zd (zb (zb (za ?_))))
 refine s_mv ?_
 refine s_nil yU30 ?_
 refine zf (zd (zO rfl ?_))
 refine zgk 0 ?_
 refine zgk 3 ?_
 refine zb (za ?_)
 refine s_as ?_
 refine zf (zd ?_)
 refine awp_own 2 9200 40 yI40.choose_spec ?_
 refine zh (zg (zn ?_))
 cases F1
 exact zl _ [] Tryz.results167
 refine zb (za ?_)
 refine s_as ?_
 refine zf (zd (zb (zb (za ?_))))
 refine s_mv ?_
 refine s_nil yU30 ?_
 refine zf (zd (zaM rfl ?_))
 refine zgk 0 ?_
 refine zgk 3 ?_
 refine zi (zd (zb (za ?_)))
 refine s_bs Hit.row ([] : List Hit) yP30 yR40 ?_
 refine s_mv ?_
 obtain ⟨hk1, F1⟩ := zah F0
 refine zdX Hit.row (fun y => Hit.row_len y) hk1 yP30 ?_
 refine s_as ?_
 refine zf (zd ?_)
 refine zdG 2 7 9200 (by conv => lhs; whnf) (by conv => lhs; whnf) rfl ?_
 refine zh (zn ?_)
 cases F1
 exact zl _ [] Tryz.results167
def zfd (fuel : Nat) : Prop := ∀ (x1 : Form) (x2 : (List Hit)) (r : (Form × Bool)), zdL fuel x1 x2 = some r → AC Tryz.prog 109 [.ag [.t (.sc (.int .i64 x1.kind)), .t (.sc (.str x1.name)), .t (.sc (.int .i64 x1.n)), .t (.sl (x1.scopes.map rI)), .t (.sl (x1.kids.map Form.row))], .t (.sl (x2.map Hit.row))] noOb (.tp [.ag [.t (.sc (.int .i64 r.1.kind)), .t (.sc (.str r.1.name)), .t (.sc (.int .i64 r.1.n)), .t (.sl (r.1.scopes.map rI)), .t (.sl (r.1.kids.map Form.row))], .t (.sc (.bool r.2))]) noOb
def zfu (fuel : Nat) : Prop := ∀ (x1 : Form) (x2 : (List Hit)) (o1 : Int) (o2 : Form) (r : (Bool × Int × Form)), zdD fuel x1 x2 o1 o2 = some r → AC Tryz.prog 165 [.ag [.t (.sc (.int .i64 x1.kind)), .t (.sc (.str x1.name)), .t (.sc (.int .i64 x1.n)), .t (.sl (x1.scopes.map rI)), .t (.sl (x1.kids.map Form.row))], .t (.sl (x2.map Hit.row)), .rf 9000 0, .rf 9001 0] (objs [(9000, .box [.t (.sc (.int .i64 o1))]), (9001, .box [.t (.sc (.int .i64 o2.kind)), .t (.sc (.str o2.name)), .t (.sc (.int .i64 o2.n)), .t (.sl (o2.scopes.map rI)), .ar 9444]), (9444, .arr (o2.kids.map Form.row) 27 true)]) (.t (.sc (.bool r.1))) (objs [(9000, .box [.t (.sc (.int .i64 r.2.1))]), (9001, .box [.t (.sc (.int .i64 r.2.2.kind)), .t (.sc (.str r.2.2.name)), .t (.sc (.int .i64 r.2.2.n)), .t (.sl (r.2.2.scopes.map rI)), .ar 10444]), (9444, .dead), (10444, .arr (r.2.2.kids.map Form.row) 27 true)])
theorem m_impl_fill_st (fu : Nat) (ih_m_impl_fill : ∀ k, k ≤ fu → zfd k) (ih_m_impl_fill_1 : ∀ k, k ≤ fu → zfu k) : zfd (fu + 1) := by
 intro x1 x2 r F0
 rw [zdL] at F0
 refine AC_i [.ag [.t (.sc (.int .i64 r.1.kind)), .t (.sc (.str r.1.name)), .t (.sc (.int .i64 r.1.n)), .t (.sl (r.1.scopes.map rI)), .t (.sl (r.1.kids.map Form.row))], .t (.sc (.bool r.2))] Tryz.func109 rfl Tryz.ntmps109 ?_
 intro C hC
 refine zb (za ?_)
 refine zbf ?_
 refine z6 yZ27 ?_
 refine s_as ?_
 refine zf (zd (zb (zb (za ?_))))
 refine s_fa zc2 ?_
 refine zu yA3 ?_
 refine s_eq ?_
 refine zf (zd ?_)
 refine zm F0 ?_ ?_ <;> intro C1 F1
 refine zb (zb (za ?_))
 refine s_mv ?_
 refine zI yA27 yS27 ?_
 obtain ⟨v2, V2, F2⟩ := zc F1
 refine zv [] (m_impl_hitAt_ok fu _ _ _ V2) ?_
 refine s_as ?_
 refine zf (zd (zb (za ?_)))
 refine s_mv ?_
 refine s_ge ?_
 refine zf (zd ?_)
 refine zm F2 ?_ ?_ <;> intro C3 F3
 refine zb (za ?_)
 refine s_mv ?_
 refine s_mv ?_
 obtain ⟨v4, V4, F4⟩ := zc F3
 refine zM Hit.row V4 (Hit.row_eq _) yE30 ?_
 refine s_fa yF40_2 ?_
 refine zan yA27 yS27 ?_
 obtain ⟨v5, V5, F5⟩ := zc F4
 refine zv [] (zfV fu _ _ V5) ?_
 refine zac yS27 ?_
 refine s_as ?_
 refine zf (zd (zh (zg (zg (zn ?_)))))
 cases F5
 exact zJ [] [] (by rw [Tryz.results109]; exact (z8 (by conv => lhs; whnf) (by conv => lhs; whnf) yA27 yS27 rfl (zae (by conv => lhs; whnf) zU)))
 refine zi (zd (zb (za ?_)))
 refine zI yA27 yS27 ?_
 obtain ⟨v6, V6, F4⟩ := zc F3
 refine zv [] (zfV fu _ _ V6) ?_
 refine zac yS27 ?_
 refine s_as ?_
 refine zf (zd (zh (zg (zn ?_))))
 cases F4
 exact zJ [] [] (by rw [Tryz.results109]; exact (z8 (by conv => lhs; whnf) (by conv => lhs; whnf) yA27 yS27 rfl (zae (by conv => lhs; whnf) zU)))
 refine zi (zd (zb (za ?_)))
 refine s_fa zc2 ?_
 refine zu yA3 ?_
 refine s_fa zge ?_
 refine zu yA3 ?_
 refine zeH yZ27 yL27 ?_
 refine z6 yZ27 ?_
 refine z6 yZ3 ?_
 refine zac yS27 ?_
 refine zac yS3 ?_
 refine zf (zd ?_)
 refine zgZ 7 8144 27 [.t (.sc (.int .i64 x1.kind)), .t (.sc (.str (⟨#[]⟩ : ByteArray))), .t (.sc (.int .i64 x1.n)), .nl, .ar 8144] yI27.choose_spec ?_
 refine zb (za ?_)
 refine s_fn ?_
 refine s_as ?_
 refine zf (zd (zb (zb (za ?_))))
 refine s_fa zH ?_
 refine zu yA25 ?_
 refine zE yU25 ?_
 refine s_mv ?_
 refine zf (zd (zk ?_))
 refine awp_mvB 7 8144 5020 [.t (.sc (.int .i64 x1.kind)), .t (.sc (.str (⟨#[]⟩ : ByteArray))), .t (.sc (.int .i64 x1.n)), .nl, .ar 5020] ?_
 refine awp_nlB 7 3 [.t (.sc (.int .i64 x1.kind)), .t (.sc (.str (⟨#[]⟩ : ByteArray))), .t (.sc (.int .i64 x1.n)), .t (.sl (([] : List Int).map rI)), .ar 5020] (by conv => lhs; whnf) rfl rfl ?_
 refine zao [5, 10, 11, 12, 13, 14, 15, 16, 17, 18, 20, 46, 47, 48, 49, 50, 51, 52, 53, 54, 55, 56, 57, 58, 59, 60, 61, 62, 63, 64, 65, 66, 67, 68, 69, 70, 71, 72, 73, 74, 75, 76, 77, 78, 79, 80, 81, 82, 83, 84, 85, 86, 87, 88, 89, 90, 91, 92, 93, 94, 95, 96, 97, 98, 99, 100, 101, 102, 103, 104, 105, 106, 107, 108, 109, 110, 111, 112, 113, 114, 115, 116, 117, 118, 119, 120, 121, 122, 123, 124, 125, 126, 127, 128, 129, 130, 131, 132, 133, 134, 135, 136, 137, 138, 139, 140, 141, 142] [7, 8, 5020] [11, 75, 5080, 5140, 32072] [5020] (fun a : Nat × Int × Int × ByteArray × Int × (List Int) × (List Form) × Int => a.1) (fun a : Nat × Int × Int × ByteArray × Int × (List Int) × (List Form) × Int => [(46, .t (.sc (.int .i64 a.2.1)))]) (fun a : Nat × Int × Int × ByteArray × Int × (List Int) × (List Form) × Int => [(7, .box [.t (.sc (.int .i64 a.2.2.1)), .t (.sc (.str a.2.2.2.1)), .t (.sc (.int .i64 a.2.2.2.2.1)), .t (.sl (a.2.2.2.2.2.1.map rI)), .ar 5020]), (8, .box [.t (.sc (.int .i64 a.2.2.2.2.2.2.2))]), (5020, .arr (a.2.2.2.2.2.2.1.map Form.row) 27 true)]) (fun a : Nat × Int × Int × ByteArray × Int × (List Int) × (List Form) × Int => a.1 ≤ fu ∧ zbI a.1 x1 x2 a.2.1 a.2.2.1 a.2.2.2.1 a.2.2.2.2.1 a.2.2.2.2.2.1 a.2.2.2.2.2.2.1 a.2.2.2.2.2.2.2 = some r) (fu, 0, x1.kind, (⟨#[]⟩ : ByteArray), x1.n, ([] : List Int), ([] : List Form), 0) ⟨Nat.le_refl _, F1⟩ (by rfl) (by rfl) (fun _ => rfl) (zG (by conv => lhs; whnf) (by rfl) za3) (zV (by conv => lhs; whnf) (by rfl) (zV (by conv => lhs; whnf) (by rfl) (zV (by conv => lhs; whnf) (by rfl) zaU))) (zb8 hC rfl) (by repeat (first | exact zag rfl | refine zau rfl ?_ | refine zZ rfl ?_)) (by repeat (first | exact zaI | exact zal rfl | refine zav rfl ?_ | refine z4 rfl ?_)) ?_
 clear F1
 rintro ⟨fu, g7, g8, g9, g10, g11, g12, g13⟩ ⟨hl14, F2⟩
 dsimp only at hl14 F2 ⊢
 obtain _ | fu := fu
 · rw [zbI] at F2; cases F2
 rw [zbI] at F2
 refine zb (za ?_)
 refine s_lt ?_
 refine zf (zd (zb ?_))
 refine zm F2 ?_ ?_ <;> intro C15 F3
 refine zT 44 (fun B16 => ?_)
 refine zi (zd (zb (zk (zb (za ?_)))))
 refine s_mv ?_
 obtain ⟨v17, V17, F4⟩ := zc F3
 refine zM Form.row V17 (Form.row_eq _) yE25 ?_
 refine zan yA27 yS27 ?_
 refine z6 yZ27 ?_
 refine s_as ?_
 refine zac yS27 ?_
 refine zf (zd (zb (zb (za ?_))))
 refine zI yA27 yS27 ?_
 obtain ⟨v18, V18, F5⟩ := zc F4
 refine zv [] (zcK fu _ _ _ V18) ?_
 refine zf (zd ?_)
 refine zm F5 ?_ ?_ <;> intro C19 F6
 refine zz (zq (zr (zd (za ?_))))
 refine zN (zaz C15 B16 (zfw V17).1) ?_
 refine s_mv ?_
 refine zf ?_
 exact s_rn (fu, (g7 + 1), g8, g9, g10, g11, g12, g13) ⟨by first | omega | (dsimp only; omega), F6⟩
 refine zi (zd (zb ?_))
 refine zbk (α := Nat × Bool) [53, 54, 55, 56, 57, 58, 59, 60, 61, 62, 63, 64, 65, 66, 67, 68] [] [] (fun a => [(68, .t (.sc (.bool a.2)))]) (fun a => []) (fun a => a.1 ≤ fu ∧ zbJ a.1 x1 x2 g7 g8 g9 g10 g11 g12 g13 v17 a.2 = some r) ?_ ?_
 refine za ?_
 refine s_mv ?_
 refine zN (zaz C15 B16 (zfw V17).1) ?_
 refine s_fa zH ?_
 refine zu yA25 ?_
 refine zE yU25 ?_
 refine s_eq ?_
 refine s_mv ?_
 refine zo _ 59 F6 ?_ ?_ <;> intro C20 F7
 iterate 8 refine r_no rfl ?_
 refine zA ?_
 refine zf ?_
 exact s_jn (fu, true) ⟨by first | omega | (dsimp only; omega), F7⟩
 refine s_fa zH ?_
 refine zu yA25 ?_
 refine s_mv ?_
 refine zN (zaz C15 B16 (zfw V17).1) ?_
 obtain ⟨v21, V21, F8⟩ := zc F7
 refine zM Form.row V21 (Form.row_eq _) yE25 ?_
 refine zan yA27 yS27 ?_
 obtain ⟨v22, V22, F9⟩ := zc F8
 refine zv [] (zcK fu _ _ _ V22) ?_
 refine zbB ?_
 refine zB ?_
 refine zf ?_
 exact s_jn (fu, (!v22)) ⟨by first | omega | (dsimp only; omega), F9⟩
 clear F6
 rintro ⟨fu, g23⟩ ⟨hl24, F7⟩
 dsimp only at hl24 F7 ⊢
 obtain _ | fu := fu
 · rw [zbJ] at F7; cases F7
 rw [zbJ] at F7
 refine zm F7 ?_ ?_ <;> intro C25 F8
 refine zb (zb (za ?_))
 refine s_mv ?_
 refine zI yA27 yS27 ?_
 refine s_mv ?_
 obtain ⟨v26, V26, F9⟩ := zc F8
 refine z5 [(9000, 8), (9001, 7), (9444, 5020), (10444, 32072)] [] _ _ (ih_m_impl_fill_1 fu (by omega) _ _ _ _ _ V26) ?_
 refine zbB ?_
 refine zf (zd ?_)
 refine zm F9 ?_ ?_ <;> intro C27 F10
 refine zb (za ?_)
 refine zeH yZ27 yL27 ?_
 refine zac yS27 ?_
 refine s_as ?_
 refine zf (zd (zh (zg (zg (zj (zg (zx (zj (zg (zn ?_))))))))))
 cases F10
 exact zJ [] [] (by rw [Tryz.results109]; exact (z8 (by conv => lhs; whnf) (by conv => lhs; whnf) yA27 yS27 rfl (zae (by conv => lhs; whnf) zU)))
 refine zi (zd (zz (zq (zr (zd (za ?_))))))
 refine zN (zaz C15 B16 (zfw V17).1) ?_
 refine s_mv ?_
 refine zf ?_
 exact s_rn (fu, (g7 + 1), v26.2.2.kind, v26.2.2.name, v26.2.2.n, v26.2.2.scopes, v26.2.2.kids, v26.2.1) ⟨by first | omega | (dsimp only; omega), F10⟩ [(5020, 32072)]
 refine zi (zd (zb (za ?_)))
 refine s_bs rI ([] : List Int) yP24 yR3 ?_
 refine s_as ?_
 refine s_as ?_
 refine zf (zd ?_)
 refine zbk (α := Nat × Int × (List Int)) [5, 12, 13, 14, 15, 16, 76, 77, 78, 79, 80, 81, 82, 83, 84, 85, 86, 87, 88, 89, 90, 91, 92, 93, 94, 95, 96, 97, 98, 99, 100, 101, 102, 103, 104, 105, 106, 107, 108, 109, 110] [75, 5080] [] (fun a => [(12, .ar 5080), (13, .t (.sc (.int .i64 a.2.1)))]) (fun a => [(75, .dead), (5080, .arr (a.2.2.map rI) 3 true)]) (fun a => a.1 ≤ fu ∧ zey a.1 x1 x2 g7 g8 g9 g10 g11 g12 g13 v17 a.2.1 a.2.2 = some r) ?_ ?_
 refine zb (za ?_)
 refine s_mv ?_
 refine zE yU30 ?_
 refine s_mv ?_
 refine zf (zd (zk ?_))
 refine zdG 12 75 5080 (by conv => lhs; whnf) (by conv => lhs; whnf) rfl ?_
 refine zao [5, 12, 13, 14, 15, 16, 78, 79, 80, 81, 82, 83, 84, 85, 86, 87, 88, 89, 90, 91, 92, 93, 94, 95, 96, 97, 98, 99, 100, 101, 102, 103, 104, 105, 106, 107, 108, 109, 110] [5080] [15, 16, 95, 96] [5080] (fun a : Nat × Int × (List Int) × Int => a.1) (fun a : Nat × Int × (List Int) × Int => [(12, .ar 5080), (13, .t (.sc (.int .i64 a.2.2.2))), (78, .t (.sc (.int .i64 a.2.1)))]) (fun a : Nat × Int × (List Int) × Int => [(5080, .arr (a.2.2.1.map rI) 3 true)]) (fun a : Nat × Int × (List Int) × Int => a.1 ≤ fu ∧ zb1 a.1 x1 x2 g7 g8 g9 g10 g11 g12 g13 v17 a.2.1 a.2.2.1 a.2.2.2 = some r ∧ 0 ≤ a.2.1) (fu, 0, ([] : List Int), (-1)) ⟨Nat.le_refl _, F8, by simp⟩ (by rfl) (by rfl) (fun _ => rfl) (zG (by conv => lhs; whnf) (by rfl) (zG (by conv => lhs; whnf) (by rfl) (zG (by conv => lhs; whnf) (by rfl) za3))) (zV (by conv => lhs; whnf) (by rfl) zaU) (zb8 hC rfl) (by repeat (first | exact zag rfl | refine zau rfl ?_ | refine zZ rfl ?_)) (by repeat (first | exact zaI | exact zal rfl | refine zav rfl ?_ | refine z4 rfl ?_)) ?_
 clear F8
 rintro ⟨fu, g28, g29, g30⟩ ⟨hl31, F9, hn_g28⟩
 dsimp only at hl31 F9 hn_g28 ⊢
 obtain _ | fu := fu
 · rw [zb1] at F9; cases F9
 rw [zb1] at F9
 refine zb (za ?_)
 refine s_lt ?_
 refine zf (zd (zb ?_))
 refine zm F9 ?_ ?_ <;> intro C32 F10
 refine zT 1 (fun B33 => ?_)
 refine zi (zd (zb (zk (zb (za ?_)))))
 refine s_mv ?_
 obtain ⟨v34, V34, F11⟩ := zc F10
 refine zM Hit.row V34 (Hit.row_eq _) yE30 ?_
 refine zan yA40 yS40 ?_
 refine z6 yZ40 ?_
 refine s_as ?_
 refine zac yS40 ?_
 refine zf (zd (zb (za ?_)))
 refine z6 yZ4 ?_
 refine zac yS4 ?_
 refine zf (zd (zb (za ?_)))
 refine zI yA27 yS27 ?_
 refine s_fn ?_
 obtain ⟨v35, V35, F12⟩ := zc F11
 refine z5 [(9000, 16), (9001, 15)] [] _ _ (zg1 fu _ _ _ _ V35) ?_
 refine zf (zd (zb ?_))
 refine zbk (α := Nat × Bool) [86, 87, 88, 89, 90, 91, 92] [] [] (fun a => [(92, .t (.sc (.bool a.2)))]) (fun a => []) (fun a => a.1 ≤ fu ∧ zda a.1 x1 x2 g7 g8 g9 g10 g11 g12 g13 v17 g28 g29 g30 v34 a.2 = some r) ?_ ?_
 refine za ?_
 refine zu yA4 ?_
 refine zbB ?_
 refine s_mv ?_
 refine zo _ 88 F12 ?_ ?_ <;> intro C36 F13
 iterate 3 refine r_no rfl ?_
 refine zA ?_
 refine zf ?_
 exact s_jn (fu, true) ⟨by first | omega | (dsimp only; omega), F13⟩
 refine s_fa zf0 ?_
 refine zu yA3 ?_
 refine s_eq ?_
 refine zB ?_
 refine zf ?_
 exact s_jn (fu, (decide (v34.depth = 0))) ⟨by first | omega | (dsimp only; omega), F13⟩
 clear F12
 rintro ⟨fu, g37⟩ ⟨hl38, F13⟩
 dsimp only at hl38 F13 ⊢
 obtain _ | fu := fu
 · rw [zda] at F13; cases F13
 rw [zda] at F13
 refine zm F13 ?_ ?_ <;> intro C39 F14
 refine zz (zq (zr (zd (za ?_))))
 refine zN (zaz C32 B33 hn_g28) ?_
 refine s_mv ?_
 refine zf ?_
 exact s_rn (fu, (g28 + 1), g29, g30) ⟨by first | omega | (dsimp only; omega), F14, by first | omega | (dsimp only; omega)⟩
 refine zi (zd (zb (za ?_)))
 refine s_mv ?_
 refine s_mv ?_
 refine s_bs rI [g28] yP24 yR3 ?_
 obtain ⟨hk40, F15⟩ := zah F14
 refine zdX rI (fun _ => rfl) hk40 yP24 ?_
 refine s_as ?_
 refine zf (zd (zb ?_))
 refine zbk (α := Nat × Bool) [97, 98, 99, 100, 101, 102, 103, 104, 105] [] [] (fun a => [(105, .t (.sc (.bool a.2)))]) (fun a => []) (fun a => a.1 ≤ fu ∧ zc9 a.1 x1 x2 g7 g8 g9 g10 g11 g12 g13 v17 g28 g29 v34 a.2 = some r) ?_ ?_
 refine za ?_
 refine s_mv ?_
 refine s_ge ?_
 refine s_mv ?_
 refine zo _ 99 F15 ?_ ?_ <;> intro C41 F16
 refine s_mv ?_
 refine s_fa zfA ?_
 refine zu yA30 ?_
 refine zE yU30 ?_
 refine s_ne ?_
 refine zA ?_
 refine zf ?_
 exact s_jn (fu, (decide (g30 ≠ (v34.many.length : Int)))) ⟨by first | omega | (dsimp only; omega), F16⟩
 iterate 5 refine r_no rfl ?_
 refine zB ?_
 refine zf ?_
 exact s_jn (fu, false) ⟨by first | omega | (dsimp only; omega), F16⟩
 clear F15
 rintro ⟨fu, g42⟩ ⟨hl43, F16⟩
 dsimp only at hl43 F16 ⊢
 obtain _ | fu := fu
 · rw [zc9] at F16; cases F16
 rw [zc9] at F16
 refine zm F16 ?_ ?_ <;> intro C44 F17
 refine zb (za ?_)
 refine zeH yZ27 yL27 ?_
 refine zac yS27 ?_
 refine s_as ?_
 refine zf (zd (zh (zg (zj (zg (zx (zj (ze2 (zj (zg (zx (zj (zg (zn ?_))))))))))))))
 cases F17
 exact zJ [] [] (by rw [Tryz.results109]; exact (z8 (by conv => lhs; whnf) (by conv => lhs; whnf) yA27 yS27 rfl (zae (by conv => lhs; whnf) zU)))
 refine zi (zd (za ?_))
 refine s_fa zfA ?_
 refine zu yA30 ?_
 refine zE yU30 ?_
 refine s_as ?_
 refine zf (zX (zd (za ?_)))
 refine zN (zaz C32 B33 hn_g28) ?_
 refine s_mv ?_
 refine zf ?_
 exact s_rn (fu, (g28 + 1), (g29 ++ [g28]), (v34.many.length : Int)) ⟨by first | omega | (dsimp only; omega), F17, by first | omega | (dsimp only; omega)⟩ [(5080, 96)]
 refine zz (zq (zp (zr ?_)))
 exact s_jn (fu, g30, g29) ⟨by first | omega | (dsimp only; omega), F10⟩
 clear F8
 rintro ⟨fu, g45, g46⟩ ⟨hl47, F9⟩
 dsimp only at hl47 F9 ⊢
 obtain _ | fu := fu
 · rw [zey] at F9; cases F9
 rw [zey] at F9
 refine zb (za ?_)
 refine s_as ?_
 refine zf (zd (zk ?_))
 refine awp_mvB 7 5020 5140 [.t (.sc (.int .i64 g8)), .t (.sc (.str g9)), .t (.sc (.int .i64 g10)), .t (.sl (g11.map rI)), .ar 5140] ?_
 refine zao [5, 17, 18, 20, 111, 112, 113, 114, 115, 116, 117, 118, 119, 120, 121, 122, 123, 124, 125, 126, 127, 128, 129, 130, 131, 132, 133, 134, 135, 136, 137, 138, 139, 140, 141] [7, 8, 5140] [2117, 32139] [5140] (fun a : Nat × Int × Int × ByteArray × Int × (List Int) × (List Form) × Int => a.1) (fun a : Nat × Int × Int × ByteArray × Int × (List Int) × (List Form) × Int => [(17, .t (.sc (.int .i64 a.2.1)))]) (fun a : Nat × Int × Int × ByteArray × Int × (List Int) × (List Form) × Int => [(7, .box [.t (.sc (.int .i64 a.2.2.1)), .t (.sc (.str a.2.2.2.1)), .t (.sc (.int .i64 a.2.2.2.2.1)), .t (.sl (a.2.2.2.2.2.1.map rI)), .ar 5140]), (8, .box [.t (.sc (.int .i64 a.2.2.2.2.2.2.2))]), (5140, .arr (a.2.2.2.2.2.2.1.map Form.row) 27 true)]) (fun a : Nat × Int × Int × ByteArray × Int × (List Int) × (List Form) × Int => a.1 ≤ fu ∧ zc8 a.1 x1 x2 g7 v17 g45 g46 a.2.1 a.2.2.1 a.2.2.2.1 a.2.2.2.2.1 a.2.2.2.2.2.1 a.2.2.2.2.2.2.1 a.2.2.2.2.2.2.2 = some r) (fu, 0, g8, g9, g10, g11, g12, g13) ⟨Nat.le_refl _, F9⟩ (by rfl) (by rfl) (fun _ => rfl) (zG (by conv => lhs; whnf) (by rfl) za3) (zV (by conv => lhs; whnf) (by rfl) (zV (by conv => lhs; whnf) (by rfl) (zV (by conv => lhs; whnf) (by rfl) zaU))) (zb8 hC rfl) (by repeat (first | exact zag rfl | refine zau rfl ?_ | refine zZ rfl ?_)) (by repeat (first | exact zaI | exact zal rfl | refine zav rfl ?_ | refine z4 rfl ?_)) ?_
 clear F9
 rintro ⟨fu, g48, g49, g50, g51, g52, g53, g54⟩ ⟨hl55, F10⟩
 dsimp only at hl55 F10 ⊢
 obtain _ | fu := fu
 · rw [zc8] at F10; cases F10
 rw [zc8] at F10
 refine zb (zb (za ?_))
 refine s_mv ?_
 refine s_mv ?_
 refine s_lt ?_
 refine zf (zd ?_)
 refine zm F10 ?_ ?_ <;> intro C56 F11
 refine zi (zd (zb (zk (zb (za ?_)))))
 refine s_mv ?_
 obtain ⟨v57, V57, F12⟩ := zc F11
 refine z5 [(9200, 2117)] [] _ _ (m_slices_Clone_Hit_ok fu _ _ V57) ?_
 refine s_as ?_
 refine zf (zd ?_)
 refine zbk (α := Nat × (List Hit)) [20, 118, 119, 120, 121, 122, 123, 124, 125, 126, 127, 128, 129, 130, 131, 132, 133, 134, 135] [2117] [] (fun a => []) (fun a => [(2117, .arr (a.2.map Hit.row) 40 true)]) (fun a => a.1 ≤ fu ∧ zex a.1 x1 x2 g7 v17 g45 g46 g48 g49 g50 g51 g52 g53 g54 a.2 = some r) ?_ ?_
 refine zb (za ?_)
 refine s_mv ?_
 refine zg5 yU24 ?_
 refine s_mv ?_
 refine zf (zd (zk ?_))
 refine za1 (β := Int × (List Hit)) [20, 120, 121, 122, 123, 124, 125, 126, 127, 128, 129, 130, 131, 132, 133, 134, 135] [2117] [] (fun a => [(120, .t (.sc (.int .i64 a.2.1)))]) (fun a => [(2117, .arr (a.2.2.map Hit.row) 40 true)]) (fun a => a.1 ≤ fu ∧ zcC a.1 x1 x2 g7 v17 g45 g46 g48 g49 g50 g51 g52 g53 g54 a.2.1 a.2.2 = some r ∧ 0 ≤ a.2.1) (fu, 0, v57) ⟨Nat.le_refl _, F12, by simp⟩ ?_
 clear F12
 rintro ⟨fu, g58, g59⟩ ⟨hl60, F13, hn_g58⟩
 dsimp only at hl60 F13 hn_g58 ⊢
 obtain _ | fu := fu
 · rw [zcC] at F13; cases F13
 rw [zcC] at F13
 refine zb (za ?_)
 refine s_lt ?_
 refine zf (zd (zb ?_))
 refine zm F13 ?_ ?_ <;> intro C61 F14
 refine zhx 12 5080 (fun B62 => ?_)
 refine zi (zd (zb (zk (zb (za ?_)))))
 obtain ⟨v63, V63, F15⟩ := zc F14
 refine s_ixA rI V63 yE24 ?_
 refine s_lA1 rI V63 rfl yA3 ?_
 refine s_as ?_
 refine zf (zd (za ?_))
 iterate 4 refine s_mv ?_
 obtain ⟨v64, V64, F16⟩ := zc F15
 refine zM Hit.row V64 (Hit.row_eq _) yE30 ?_
 refine s_fa zfA ?_
 refine zu yA30 ?_
 refine s_mv ?_
 obtain ⟨v65, V65, F17⟩ := zc F16
 refine zM Hit.row V65 (Hit.row_eq _) yE30 ?_
 refine zan yA40 yS40 ?_
 obtain ⟨v66, V66, F18⟩ := zc F17
 refine s_ixA Hit.row V66 yE30 ?_
 refine s_stA Hit.row v65 V66 (Hit.row_eq _) (Hit.row_eq _) yS40 yS40 ?_
 refine zf (zX (zd (za ?_)))
 refine zN (zaz C61 B62 hn_g58) ?_
 refine s_mv ?_
 refine zf ?_
 exact s_rn (fu, (g58 + 1), (g59.set v63.toNat v65)) ⟨by first | omega | (dsimp only; omega), F18, by first | omega | (dsimp only; omega)⟩
 refine zz (zq (zp (zr ?_)))
 exact s_jn (fu, g59) ⟨by first | omega | (dsimp only; omega), F14⟩
 clear F12
 rintro ⟨fu, g67⟩ ⟨hl68, F13⟩
 dsimp only at hl68 F13 ⊢
 obtain _ | fu := fu
 · rw [zex] at F13; cases F13
 rw [zex] at F13
 refine zb (za ?_)
 refine s_mv ?_
 refine zI yA27 yS27 ?_
 refine s_mv ?_
 obtain ⟨v69, V69, F14⟩ := zc F13
 refine z5 [(9000, 8), (9001, 7), (9444, 5140), (10444, 32139)] [2117] _ _ (ih_m_impl_fill_1 fu (by omega) _ _ _ _ _ V69) ?_
 refine zbB ?_
 refine zf (zd ?_)
 refine zm F14 ?_ ?_ <;> intro C70 F15
 refine zb (za ?_)
 refine zeH yZ27 yL27 ?_
 refine zac yS27 ?_
 refine s_as ?_
 refine zf (zd (zh (zj (zg (zx (zj (zj (zg (zx (zj (zg (zn ?_))))))))))))
 cases F15
 exact zJ [] [] (by rw [Tryz.results109]; exact (z8 (by conv => lhs; whnf) (by conv => lhs; whnf) yA27 yS27 rfl (zae (by conv => lhs; whnf) zU)))
 refine zi (zX (zd (za ?_)))
 refine s_mv ?_
 refine zN rfl ?_
 refine s_as ?_
 refine zf ?_
 exact s_rn (fu, (w64 (g48 + 1)), v69.2.2.kind, v69.2.2.name, v69.2.2.n, v69.2.2.scopes, v69.2.2.kids, v69.2.1) ⟨by first | omega | (dsimp only; omega), F15⟩ [(5140, 32139)]
 refine zz (zq (zp (zr (zX (zd (za ?_))))))
 refine zN rfl ?_
 refine s_mv ?_
 refine zf ?_
 exact s_rn (fu, (w64 (g7 + 1)), g49, g50, g51, g52, g53, g54) ⟨by first | omega | (dsimp only; omega), F11⟩ [(5020, 5140)]
 refine zz (zq (zp (zr (zd (zb (za ?_))))))
 refine zI yA27 yS27 ?_
 refine zac yS27 ?_
 refine s_as ?_
 refine zf (zd (zh (zn ?_)))
 cases F3
 exact zJ [] [5020] (by rw [Tryz.results109]; exact (z8 (by conv => lhs; whnf) (by conv => lhs; whnf) yA27 yS27 rfl (zae (by conv => lhs; whnf) zU)))
end Go.Abs
