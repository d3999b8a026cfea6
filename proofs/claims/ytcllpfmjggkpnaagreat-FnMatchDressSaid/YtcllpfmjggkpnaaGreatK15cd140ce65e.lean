/- A part of the proof: what the functions that the law calls answer, as pure values. -/
import Derived.Test.YtcllpfmjggkpnaaGreatK5f501f5f0144
import Derived.Test.YtcllpfmjggkpnaaGreatK73f09199af94
import Derived.Test.YtcllpfmjggkpnaaGreatK227875200f03
import Derived.Test.YtcllpfmjggkpnaaGreatK61ef258a925a
import Derived.Test.YtcllpfmjggkpnaaGreatKb347e3c4ab73
import Derived.Test.YtcllpfmjggkpnaaGreatKa15390ddf9b4
import Derived.Test.YtcllpfmjggkpnaaGreatK98a493ba4651
import Derived.Test.YtcllpfmjggkpnaaGreatK2128be1e8112
set_option linter.unusedSimpArgs false
set_option linter.unusedVariables false
set_option maxRecDepth 100000
set_option maxHeartbeats 4000000
namespace Go.Abs
open Go.Proofs
theorem zge (fuel : Nat) : zbO fuel := by
 induction fuel using Nat.strongRecOn with
 | _ N ih =>
   cases N with
   | zero => exact (by intro x1 o1 r h; rw [zaw] at h; cases h)
   | succ fu => exact zgl fu (fun k hk => (ih k (by omega)))
theorem zgm (fuel : Nat) : zbO fuel := (zge fuel)
def m_impl_formOr_AC (fuel : Nat) : Prop := ∀ (x1 : Form) (r : (Form × Bool)), zgk fuel x1 = some r → AC Tryz.prog 39 [.ag [.t (.sc (.int .i64 x1.kind)), .t (.sc (.str x1.name)), .t (.sc (.int .i64 x1.n)), .t (.sl (x1.scopes.map rI)), .t (.sl (x1.kids.map Form.row))]] noOb (.tp [.ag [.t (.sc (.int .i64 r.1.kind)), .t (.sc (.str r.1.name)), .t (.sc (.int .i64 r.1.n)), .t (.sl (r.1.scopes.map rI)), .t (.sl (r.1.kids.map Form.row))], .t (.sc (.bool r.2))]) noOb
theorem m_impl_formOr_ok (fuel : Nat) : m_impl_formOr_AC fuel := by
 intro x1 r F0
 unfold zgk at F0
 refine AC_i [.ag [.t (.sc (.int .i64 r.1.kind)), .t (.sc (.str r.1.name)), .t (.sc (.int .i64 r.1.n)), .t (.sl (r.1.scopes.map rI)), .t (.sl (r.1.kids.map Form.row))], .t (.sc (.bool r.2))] Tryz.func39 rfl Tryz.ntmps39 ?_
 intro C hC
 refine zb (za ?_)
 refine zbz ?_
 refine zY yZ27 ?_
 refine s_as ?_
 refine zf (zd (zb (zb (za ?_))))
 refine zI yA27 yS27 ?_
 obtain ⟨v1, V1, F1⟩ := zc F0
 refine zx [] (zci fuel _ _ V1) ?_
 refine zby ?_
 refine zf (zd ?_)
 refine zo F1 ?_ ?_ <;> intro C2 F2
 refine zb (za ?_)
 refine zgz yZ27 yL27 ?_
 refine zap yS27 ?_
 refine s_as ?_
 refine zf (zd (zh (zg (zm ?_))))
 cases F2
 exact zag [] [] (by rw [Tryz.results39]; exact (zal (by conv => lhs; whnf) (by conv => lhs; whnf) yA27 yS27 rfl (zaU (by conv => lhs; whnf) zaq)))
 refine zi (zd (zb (za ?_)))
 refine zI yA27 yS27 ?_
 obtain ⟨v3, V3, F3⟩ := zc F2
 refine zx [] (zcB fuel _ _ V3) ?_
 refine zap yS27 ?_
 refine s_as ?_
 refine zf (zd (zh (zm ?_)))
 cases F3
 exact zag [] [] (by rw [Tryz.results39]; exact (zal (by conv => lhs; whnf) (by conv => lhs; whnf) yA27 yS27 rfl (zaU (by conv => lhs; whnf) zaq)))
def zgd (fuel : Nat) : Prop := ∀ (x1 : Form) (x2 : Int) (o1 : Int) (r : (Form × Bool)), zb8 fuel x1 x2 o1 = some r → AC Tryz.prog 27 [.ag [.t (.sc (.int .i64 x1.kind)), .t (.sc (.str x1.name)), .t (.sc (.int .i64 x1.n)), .t (.sl (x1.scopes.map rI)), .t (.sl (x1.kids.map Form.row))], .t (.sc (.int .i64 x2)), .fn 28 [.rf 9000 0]] (objs [(9000, .box [.t (.sc (.int .i64 o1))])]) (.tp [.ag [.t (.sc (.int .i64 r.1.kind)), .t (.sc (.str r.1.name)), .t (.sc (.int .i64 r.1.n)), .t (.sl (r.1.scopes.map rI)), .t (.sl (r.1.kids.map Form.row))], .t (.sc (.bool r.2))]) (objs [(9000, .box [.t (.sc (.int .i64 o1))])])
theorem zgc (fuel : Nat) : zgd fuel := by
 intro x1 x2 o1 r F0
 unfold zb8 at F0
 refine AC_i [.ag [.t (.sc (.int .i64 r.1.kind)), .t (.sc (.str r.1.name)), .t (.sc (.int .i64 r.1.n)), .t (.sl (r.1.scopes.map rI)), .t (.sl (r.1.kids.map Form.row))], .t (.sc (.bool r.2))] Tryz.func27 rfl Tryz.ntmps27 ?_
 intro C hC
 refine zb (za ?_)
 refine zbz ?_
 refine zY yZ27 ?_
 refine s_as ?_
 refine zf (zd (zb ?_))
 refine zbY (α := Nat × Bool) [8, 9, 10, 11, 12, 13, 14, 15] [] [] (fun a => [(15, .t (.sc (.bool a.2)))]) (fun a => []) (fun a => a.1 ≤ fuel ∧ zae a.1 x1 o1 a.2 = some r) ?_ ?_
 refine za ?_
 refine zI yA27 yS27 ?_
 obtain ⟨v1, V1, F1⟩ := zc F0
 refine zx [] (zci fuel _ _ V1) ?_
 refine zby ?_
 refine s_mv ?_
 refine zp _ 11 F1 ?_ ?_ <;> intro C2 F2
 iterate 3 refine r_no rfl ?_
 refine zz ?_
 refine zf ?_
 exact s_jn (fuel, true) ⟨by first | omega | (dsimp only; omega), F2⟩
 refine s_mv ?_
 obtain ⟨v3, V3, F3⟩ := zc F2
 refine zx [] (zdb fuel _ _ _ _ V3) ?_
 refine zby ?_
 refine zy ?_
 refine zf ?_
 exact s_jn (fuel, (!v3)) ⟨by first | omega | (dsimp only; omega), F3⟩
 clear F0
 rintro ⟨fu, g4⟩ ⟨hl5, F1⟩
 dsimp only at hl5 F1 ⊢
 obtain _ | fu := fu
 · rw [zae] at F1; cases F1
 rw [zae] at F1
 refine zo F1 ?_ ?_ <;> intro C6 F2
 refine zb (za ?_)
 refine zgz yZ27 yL27 ?_
 refine zap yS27 ?_
 refine s_as ?_
 refine zf (zd (zh (zg (zm ?_))))
 cases F2
 exact zag _ [] (by rw [Tryz.results27]; exact (zal (by conv => lhs; whnf) (by conv => lhs; whnf) yA27 yS27 rfl (zaU (by conv => lhs; whnf) zaq)))
 refine zi (zd (zb (za ?_)))
 refine zI yA27 yS27 ?_
 refine s_mv ?_
 obtain ⟨v7, V7, F3⟩ := zc F2
 refine zN [(9000, 9000)] [] _ _ (zgm fu _ _ _ V7) ?_
 obtain ⟨v8, V8, F4⟩ := zc F3
 refine zx [] (m_impl_formOr_ok fu _ _ V8) ?_
 refine zbP ?_
 refine zbP ?_
 refine zap yS27 ?_
 refine s_as ?_
 refine zf (zd (zh (zm ?_)))
 cases F4
 exact zag _ [] (by rw [Tryz.results27]; exact (zal (by conv => lhs; whnf) (by conv => lhs; whnf) yA27 yS27 rfl (zaU (by conv => lhs; whnf) zaq)))
def m_impl_AddScope_AC (fuel : Nat) : Prop := ∀ (x1 : Form) (x2 : Int) (r : (Form × Bool)), zdC fuel x1 x2 = some r → AC Tryz.prog 8 [.ag [.t (.sc (.int .i64 x1.kind)), .t (.sc (.str x1.name)), .t (.sc (.int .i64 x1.n)), .t (.sl (x1.scopes.map rI)), .t (.sl (x1.kids.map Form.row))], .t (.sc (.int .i64 x2))] noOb (.tp [.ag [.t (.sc (.int .i64 r.1.kind)), .t (.sc (.str r.1.name)), .t (.sc (.int .i64 r.1.n)), .t (.sl (r.1.scopes.map rI)), .t (.sl (r.1.kids.map Form.row))], .t (.sc (.bool r.2))]) noOb
theorem zgO (fuel : Nat) : m_impl_AddScope_AC fuel := by
 intro x1 x2 r F0
 unfold zdC at F0
 refine AC_i [.ag [.t (.sc (.int .i64 r.1.kind)), .t (.sc (.str r.1.name)), .t (.sc (.int .i64 r.1.n)), .t (.sl (r.1.scopes.map rI)), .t (.sl (r.1.kids.map Form.row))], .t (.sc (.bool r.2))] Tryz.func8 rfl Tryz.ntmps8 ?_
 intro C hC
 refine zb (za ?_)
 refine zbz ?_
 refine zbz ?_
 refine zY yZ27 ?_
 refine s_as ?_
 refine zf (zd (zb (za ?_)))
 refine zI yA27 yS27 ?_
 refine zv yA3 ?_
 refine s_fn ?_
 obtain ⟨v1, V1, F1⟩ := zc F0
 refine zN [(9000, 3)] [] _ _ (zgc fuel _ _ _ _ V1) ?_
 refine zbP ?_
 refine zbP ?_
 refine zap yS27 ?_
 refine s_as ?_
 refine zf (zd (zh (zm ?_)))
 cases F1
 exact zag [] [] (by rw [Tryz.results8]; exact (zal (by conv => lhs; whnf) (by conv => lhs; whnf) yA27 yS27 rfl (zaU (by conv => lhs; whnf) zaq)))
def zeM (fuel : Nat) : Prop := ∀ (x1 : Hit) (x2 : Hit) (r : Bool), zcS fuel x1 x2 = some r → AC Tryz.prog 31 [.ag [.t (.sc (.int .i64 x1.name.kind)), .t (.sc (.str x1.name.name)), .t (.sc (.int .i64 x1.name.n)), .t (.sl (x1.name.scopes.map rI)), .t (.sl (x1.name.kids.map Form.row)), .t (.sc (.int .i64 x1.depth)), .t (.sc (.int .i64 x1.one.kind)), .t (.sc (.str x1.one.name)), .t (.sc (.int .i64 x1.one.n)), .t (.sl (x1.one.scopes.map rI)), .t (.sl (x1.one.kids.map Form.row)), .t (.sl (x1.many.map Hit.row))], .ag [.t (.sc (.int .i64 x2.name.kind)), .t (.sc (.str x2.name.name)), .t (.sc (.int .i64 x2.name.n)), .t (.sl (x2.name.scopes.map rI)), .t (.sl (x2.name.kids.map Form.row)), .t (.sc (.int .i64 x2.depth)), .t (.sc (.int .i64 x2.one.kind)), .t (.sc (.str x2.one.name)), .t (.sc (.int .i64 x2.one.n)), .t (.sl (x2.one.scopes.map rI)), .t (.sl (x2.one.kids.map Form.row)), .t (.sl (x2.many.map Hit.row))]] noOb (.t (.sc (.bool r))) noOb
def zaN (fuel : Nat) : Prop := ∀ (x1 : (List Hit)) (x2 : (List Hit)) (r : Bool), zaj fuel x1 x2 = some r → AC Tryz.prog 30 [.t (.sl (x1.map Hit.row)), .t (.sl (x2.map Hit.row)), .fn 31 []] noOb (.t (.sc (.bool r))) noOb
theorem m_impl_hitSame_st (fu : Nat) (ih_m_impl_hitSame : ∀ k, k ≤ fu → zeM k) (ih_m_slices_EqualFunc_Hit_hitSame : ∀ k, k ≤ fu → zaN k) : zeM (fu + 1) := by
 intro x1 x2 r F0
 rw [zcS] at F0
 refine AC_i [.t (.sc (.bool r))] Tryz.func31 rfl Tryz.ntmps31 ?_
 intro C hC
 refine zb (za ?_)
 refine zbz ?_
 refine zbz ?_
 refine s_as ?_
 refine zf (zd (zb (za ?_)))
 refine s_fa yF38_0 ?_
 refine za1 yA27 yS27 ?_
 refine s_fa yF38_0 ?_
 refine za1 yA27 yS27 ?_
 obtain ⟨v1, V1, F1⟩ := zc F0
 refine zx [] (zbW fu _ _ _ V1) ?_
 refine s_mv ?_
 refine zp _ 10 F1 ?_ ?_ <;> intro C2 F2
 refine s_fa yF38_1 ?_
 refine zv yA3 ?_
 refine s_fa yF38_1 ?_
 refine zv yA3 ?_
 refine s_eq ?_
 refine zz ?_
 refine s_mv ?_
 refine zp _ 17 F2 ?_ ?_ <;> intro C3 F3
 refine s_fa yF38_2 ?_
 refine za1 yA27 yS27 ?_
 refine s_fa yF38_2 ?_
 refine za1 yA27 yS27 ?_
 obtain ⟨v4, V4, F4⟩ := zc F3
 refine zx [] (zbW fu _ _ _ V4) ?_
 refine zz ?_
 refine s_mv ?_
 refine zp _ 24 F4 ?_ ?_ <;> intro C5 F5
 refine s_fa zgo ?_
 refine zv yA30 ?_
 refine s_fa zgo ?_
 refine zv yA30 ?_
 obtain ⟨v6, V6, F6⟩ := zc F5
 refine zx [] (ih_m_slices_EqualFunc_Hit_hitSame fu (by omega) _ _ _ V6) ?_
 refine zz ?_
 refine s_as ?_
 refine zf (zd (zh (zm ?_)))
 cases F6
 exact zk [] [] Tryz.results31
 iterate 5 refine r_no rfl ?_
 refine zy ?_
 refine s_as ?_
 refine zf (zd (zh (zm ?_)))
 cases F5
 exact zk [] [] Tryz.results31
 iterate 5 refine r_no rfl ?_
 refine zy ?_
 refine s_mv ?_
 iterate 5 refine r_no rfl ?_
 refine zy ?_
 refine s_as ?_
 refine zf (zd (zh (zm ?_)))
 cases F3
 exact zk [] [] Tryz.results31
 iterate 5 refine r_no rfl ?_
 refine zy ?_
 refine s_mv ?_
 iterate 5 refine r_no rfl ?_
 refine zy ?_
 refine s_mv ?_
 iterate 5 refine r_no rfl ?_
 refine zy ?_
 refine s_as ?_
 refine zf (zd (zh (zm ?_)))
 cases F2
 exact zk [] [] Tryz.results31
theorem zfB (fu : Nat) (ih_m_impl_hitSame : ∀ k, k ≤ fu → zeM k) (ih_m_slices_EqualFunc_Hit_hitSame : ∀ k, k ≤ fu → zaN k) : zaN (fu + 1) := by
 intro x1 x2 r F0
 rw [zaj] at F0
 refine AC_i [.t (.sc (.bool r))] Tryz.func30 rfl Tryz.ntmps30 ?_
 intro C hC
 refine zb (za ?_)
 refine s_as ?_
 refine zf (zd (zb (zb (za ?_))))
 refine s_mv ?_
 refine zD yU30 ?_
 refine s_mv ?_
 refine zD yU30 ?_
 refine s_ne ?_
 refine zf (zd ?_)
 refine zo F0 ?_ ?_ <;> intro C1 F1
 refine zb (za ?_)
 refine s_as ?_
 refine zf (zd (zh (zg (zm ?_))))
 cases F1
 exact zk [] [] Tryz.results30
 refine zi (zd (zb (zb (za ?_))))
 refine s_mv ?_
 refine zD yU30 ?_
 refine s_mv ?_
 refine zf (zd (zl ?_))
 refine zbu (β := Int) [6, 7, 8, 9, 17, 18, 19, 20, 21, 22, 23, 24, 25, 26, 27, 28, 29, 30, 31] [] [8, 9] (fun a => [(17, .t (.sc (.int .i64 a.2)))]) (fun a => []) (fun a => a.1 ≤ fu ∧ zac a.1 x1 x2 a.2 = some r ∧ 0 ≤ a.2) (fu, 0) ⟨Nat.le_refl _, F1, by simp⟩ ?_
 clear F1
 rintro ⟨fu, g2⟩ ⟨hl3, F2, hn_g2⟩
 dsimp only at hl3 F2 hn_g2 ⊢
 obtain _ | fu := fu
 · rw [zac] at F2; cases F2
 rw [zac] at F2
 refine zb (za ?_)
 refine s_lt ?_
 refine zf (zd (zb ?_))
 refine zo F2 ?_ ?_ <;> intro C4 F3
 refine zT 0 (fun B5 => ?_)
 refine zi (zd (zb (zl (zb (za ?_)))))
 refine s_mv ?_
 obtain ⟨v6, V6, F4⟩ := zc F3
 refine z7 Hit.row V6 (Hit.row_eq _) yE30 ?_
 refine za1 yA38 yS38 ?_
 refine zY yZ38 ?_
 refine s_as ?_
 refine zap yS38 ?_
 refine zf (zd (zb (za ?_)))
 refine s_mv ?_
 refine s_mv ?_
 obtain ⟨v7, V7, F5⟩ := zc F4
 refine z7 Hit.row V7 (Hit.row_eq _) yE30 ?_
 refine za1 yA38 yS38 ?_
 refine zY yZ38 ?_
 refine zap yS38 ?_
 refine zf (zd (zb (za ?_)))
 refine s_mv ?_
 refine zI yA38 yS38 ?_
 refine zI yA38 yS38 ?_
 obtain ⟨v8, V8, F6⟩ := zc F5
 refine zx [] (ih_m_impl_hitSame fu (by omega) _ _ _ V8) ?_
 refine zby ?_
 refine zf (zd ?_)
 refine zo F6 ?_ ?_ <;> intro C9 F7
 refine zb (za ?_)
 refine s_as ?_
 refine zf (zd (zh (zj (zg (zw (zj (zg (zm ?_))))))))
 cases F7
 exact zk [] [] Tryz.results30
 refine zi (zX (zd (za ?_)))
 refine zQ (zbg C4 B5 hn_g2) ?_
 refine s_mv ?_
 refine zf ?_
 exact s_rn (fu, (g2 + 1)) ⟨by first | omega | (dsimp only; omega), F7, by first | omega | (dsimp only; omega)⟩
 refine zC (zr (zq (zu (zd (zb (za ?_))))))
 refine s_as ?_
 refine zf (zd (zh (zm ?_)))
 cases F3
 exact zk [] [] Tryz.results30
theorem m_impl_hitSame_all (fuel : Nat) : zeM fuel ∧ zaN fuel := by
 induction fuel using Nat.strongRecOn with
 | _ N ih =>
   cases N with
   | zero => exact ⟨(by intro x1 x2 r h; rw [zcS] at h; cases h), (by intro x1 x2 r h; rw [zaj] at h; cases h)⟩
   | succ fu => exact ⟨m_impl_hitSame_st fu (fun k hk => (ih k (by omega)).1) (fun k hk => (ih k (by omega)).2), zfB fu (fun k hk => (ih k (by omega)).1) (fun k hk => (ih k (by omega)).2)⟩
theorem zfC (fuel : Nat) : zaN fuel := (m_impl_hitSame_all fuel).2
def m_impl_HitsSame_AC (fuel : Nat) : Prop := ∀ (x1 : (List Hit)) (x2 : (List Hit)) (r : Bool), zdz fuel x1 x2 = some r → AC Tryz.prog 9 [.t (.sl (x1.map Hit.row)), .t (.sl (x2.map Hit.row))] noOb (.t (.sc (.bool r))) noOb
theorem zgL (fuel : Nat) : m_impl_HitsSame_AC fuel := by
 intro x1 x2 r F0
 unfold zdz at F0
 refine AC_i [.t (.sc (.bool r))] Tryz.func9 rfl Tryz.ntmps9 ?_
 intro C hC
 refine zb (za ?_)
 refine s_as ?_
 refine zf (zd (zb (za ?_)))
 refine s_mv ?_
 refine s_mv ?_
 obtain ⟨v1, V1, F1⟩ := zc F0
 refine zx [] (zfC fuel _ _ _ V1) ?_
 refine s_as ?_
 refine zf (zd (zh (zm ?_)))
 cases F1
 exact zk [] [] Tryz.results9
def zcZ (fuel : Nat) : Prop := ∀ (x1 : Hit) (r : Bool), zdG fuel x1 = some r → AC Tryz.prog 32 [.ag [.t (.sc (.int .i64 x1.name.kind)), .t (.sc (.str x1.name.name)), .t (.sc (.int .i64 x1.name.n)), .t (.sl (x1.name.scopes.map rI)), .t (.sl (x1.name.kids.map Form.row)), .t (.sc (.int .i64 x1.depth)), .t (.sc (.int .i64 x1.one.kind)), .t (.sc (.str x1.one.name)), .t (.sc (.int .i64 x1.one.n)), .t (.sl (x1.one.scopes.map rI)), .t (.sl (x1.one.kids.map Form.row)), .t (.sl (x1.many.map Hit.row))]] noOb (.t (.sc (.bool r))) noOb
def zcT (fuel : Nat) : Prop := ∀ (x1 : Hit) (o1 : Hit) (r : Bool), zdn fuel x1 o1 = some r → AC Tryz.prog 82 [.ag [.t (.sc (.int .i64 x1.name.kind)), .t (.sc (.str x1.name.name)), .t (.sc (.int .i64 x1.name.n)), .t (.sl (x1.name.scopes.map rI)), .t (.sl (x1.name.kids.map Form.row)), .t (.sc (.int .i64 x1.depth)), .t (.sc (.int .i64 x1.one.kind)), .t (.sc (.str x1.one.name)), .t (.sc (.int .i64 x1.one.n)), .t (.sl (x1.one.scopes.map rI)), .t (.sl (x1.one.kids.map Form.row)), .t (.sl (x1.many.map Hit.row))], .rf 9000 0] (objs [(9000, .box [.t (.sc (.int .i64 o1.name.kind)), .t (.sc (.str o1.name.name)), .t (.sc (.int .i64 o1.name.n)), .t (.sl (o1.name.scopes.map rI)), .t (.sl (o1.name.kids.map Form.row)), .t (.sc (.int .i64 o1.depth)), .t (.sc (.int .i64 o1.one.kind)), .t (.sc (.str o1.one.name)), .t (.sc (.int .i64 o1.one.n)), .t (.sl (o1.one.scopes.map rI)), .t (.sl (o1.one.kids.map Form.row)), .t (.sl (o1.many.map Hit.row))])]) (.t (.sc (.bool r))) (objs [(9000, .box [.t (.sc (.int .i64 o1.name.kind)), .t (.sc (.str o1.name.name)), .t (.sc (.int .i64 o1.name.n)), .t (.sl (o1.name.scopes.map rI)), .t (.sl (o1.name.kids.map Form.row)), .t (.sc (.int .i64 o1.depth)), .t (.sc (.int .i64 o1.one.kind)), .t (.sc (.str o1.one.name)), .t (.sc (.int .i64 o1.one.n)), .t (.sl (o1.one.scopes.map rI)), .t (.sl (o1.one.kids.map Form.row)), .t (.sl (o1.many.map Hit.row))])])
def zaf (fuel : Nat) : Prop := ∀ (x1 : (List Hit)) (o1 : Hit) (r : Bool), zaO fuel x1 o1 = some r → AC Tryz.prog 81 [.t (.sl (x1.map Hit.row)), .fn 82 [.rf 9000 0]] (objs [(9000, .box [.t (.sc (.int .i64 o1.name.kind)), .t (.sc (.str o1.name.name)), .t (.sc (.int .i64 o1.name.n)), .t (.sl (o1.name.scopes.map rI)), .t (.sl (o1.name.kids.map Form.row)), .t (.sc (.int .i64 o1.depth)), .t (.sc (.int .i64 o1.one.kind)), .t (.sc (.str o1.one.name)), .t (.sc (.int .i64 o1.one.n)), .t (.sl (o1.one.scopes.map rI)), .t (.sl (o1.one.kids.map Form.row)), .t (.sl (o1.many.map Hit.row))])]) (.t (.sc (.bool r))) (objs [(9000, .box [.t (.sc (.int .i64 o1.name.kind)), .t (.sc (.str o1.name.name)), .t (.sc (.int .i64 o1.name.n)), .t (.sl (o1.name.scopes.map rI)), .t (.sl (o1.name.kids.map Form.row)), .t (.sc (.int .i64 o1.depth)), .t (.sc (.int .i64 o1.one.kind)), .t (.sc (.str o1.one.name)), .t (.sc (.int .i64 o1.one.n)), .t (.sl (o1.one.scopes.map rI)), .t (.sl (o1.one.kids.map Form.row)), .t (.sl (o1.many.map Hit.row))])])
def zam (fuel : Nat) : Prop := ∀ (x1 : (List Hit)) (o1 : Hit) (r : Int), za2 fuel x1 o1 = some r → AC Tryz.prog 124 [.t (.sl (x1.map Hit.row)), .fn 82 [.rf 9000 0]] (objs [(9000, .box [.t (.sc (.int .i64 o1.name.kind)), .t (.sc (.str o1.name.name)), .t (.sc (.int .i64 o1.name.n)), .t (.sl (o1.name.scopes.map rI)), .t (.sl (o1.name.kids.map Form.row)), .t (.sc (.int .i64 o1.depth)), .t (.sc (.int .i64 o1.one.kind)), .t (.sc (.str o1.one.name)), .t (.sc (.int .i64 o1.one.n)), .t (.sl (o1.one.scopes.map rI)), .t (.sl (o1.one.kids.map Form.row)), .t (.sl (o1.many.map Hit.row))])]) (.t (.sc (.int .i64 r))) (objs [(9000, .box [.t (.sc (.int .i64 o1.name.kind)), .t (.sc (.str o1.name.name)), .t (.sc (.int .i64 o1.name.n)), .t (.sl (o1.name.scopes.map rI)), .t (.sl (o1.name.kids.map Form.row)), .t (.sc (.int .i64 o1.depth)), .t (.sc (.int .i64 o1.one.kind)), .t (.sc (.str o1.one.name)), .t (.sc (.int .i64 o1.one.n)), .t (.sl (o1.one.scopes.map rI)), .t (.sl (o1.one.kids.map Form.row)), .t (.sl (o1.many.map Hit.row))])])
theorem m_impl_hitOk_st (fu : Nat) (ih_m_impl_hitOk : ∀ k, k ≤ fu → zcZ k) (ih_m_impl_hitOk_1 : ∀ k, k ≤ fu → zcT k) (ih_m_slices_ContainsFunc_Hit_hitOk_1 : ∀ k, k ≤ fu → zaf k) (ih_m_slices_IndexFunc_Hit_hitOk_1 : ∀ k, k ≤ fu → zam k) : zcZ (fu + 1) := by
 intro x1 r F0
 rw [zdG] at F0
 refine AC_i [.t (.sc (.bool r))] Tryz.func32 rfl Tryz.ntmps32 ?_
 intro C hC
 refine zb (za ?_)
 refine zbz ?_
 refine s_as ?_
 refine zf (zd (zb (zb (za ?_))))
 refine s_fa yF38_0 ?_
 refine za1 yA27 yS27 ?_
 obtain ⟨v1, V1, F1⟩ := zc F0
 refine zx [] (zeb fu _ _ V1) ?_
 refine zby ?_
 refine s_mv ?_
 refine zp _ 7 F1 ?_ ?_ <;> intro C2 F2
 iterate 4 refine r_no rfl ?_
 refine zz ?_
 refine s_mv ?_
 iterate 4 refine r_no rfl ?_
 refine zz ?_
 refine s_mv ?_
 iterate 4 refine r_no rfl ?_
 refine zz ?_
 refine zf (zd (zM rfl (zb (za ?_))))
 refine s_as ?_
 refine zf (zd (zh (zg (zm ?_))))
 cases F2
 exact zk [] [] Tryz.results32
 refine s_fa yF38_0 ?_
 refine s_fa zbQ ?_
 refine zv yA9 ?_
 refine zf1 ?_
 refine zy ?_
 refine s_mv ?_
 refine zp _ 13 F2 ?_ ?_ <;> intro C3 F3
 iterate 4 refine r_no rfl ?_
 refine zz ?_
 refine s_mv ?_
 iterate 4 refine r_no rfl ?_
 refine zz ?_
 refine zf (zd (zM rfl (zb (za ?_))))
 refine s_as ?_
 refine zf (zd (zh (zg (zm ?_))))
 cases F3
 exact zk [] [] Tryz.results32
 refine s_fa yF38_0 ?_
 refine s_fa zbQ ?_
 refine zv yA9 ?_
 refine zf1 ?_
 refine zy ?_
 refine s_mv ?_
 refine zp _ 19 F3 ?_ ?_ <;> intro C4 F4
 iterate 4 refine r_no rfl ?_
 refine zz ?_
 refine zf (zd (zM rfl (zb (za ?_))))
 refine s_as ?_
 refine zf (zd (zh (zg (zm ?_))))
 cases F4
 exact zk [] [] Tryz.results32
 refine s_fa yF38_1 ?_
 refine zv yA3 ?_
 obtain ⟨v5, V5, F5⟩ := zc F4
 refine zx [] (zdb fu _ _ _ _ V5) ?_
 refine zby ?_
 refine zy ?_
 refine zf (zd ?_)
 refine zo F5 ?_ ?_ <;> intro C6 F6
 refine zb (za ?_)
 refine s_as ?_
 refine zf (zd (zh (zg (zm ?_))))
 cases F6
 exact zk [] [] Tryz.results32
 refine zi (zd (zb (zb (za ?_))))
 refine s_fa yF38_1 ?_
 refine zv yA3 ?_
 refine s_eq ?_
 refine zf (zd ?_)
 refine zo F6 ?_ ?_ <;> intro C7 F7
 refine zb (za ?_)
 refine s_fa yF38_2 ?_
 refine za1 yA27 yS27 ?_
 obtain ⟨v8, V8, F8⟩ := zc F7
 refine zx [] (zci fu _ _ V8) ?_
 refine s_mv ?_
 refine zp _ 31 F8 ?_ ?_ <;> intro C9 F9
 refine s_fa zgo ?_
 refine zv yA30 ?_
 refine zD yU30 ?_
 refine s_eq ?_
 refine zz ?_
 refine s_as ?_
 refine zf (zd (zh (zg (zm ?_))))
 cases F9
 exact zk [] [] Tryz.results32
 iterate 4 refine r_no rfl ?_
 refine zy ?_
 refine s_as ?_
 refine zf (zd (zh (zg (zm ?_))))
 cases F9
 exact zk [] [] Tryz.results32
 refine zi (zd (zb (za ?_)))
 refine s_fa yF38_2 ?_
 refine za1 yA27 yS27 ?_
 refine zgz yZ27 yL27 ?_
 obtain ⟨v10, V10, F8⟩ := zc F7
 refine zx [] (zbW fu _ _ _ V10) ?_
 refine s_mv ?_
 refine zp _ 41 F8 ?_ ?_ <;> intro C11 F9
 refine s_fa zgo ?_
 refine zv yA30 ?_
 refine zD yU30 ?_
 refine s_le ?_
 refine zz ?_
 refine s_mv ?_
 refine zp _ 47 F9 ?_ ?_ <;> intro C12 F10
 refine s_fa zgo ?_
 refine zv yA30 ?_
 refine s_fn ?_
 obtain ⟨v13, V13, F11⟩ := zc F10
 refine zN [(9000, 1)] [] _ _ (ih_m_slices_ContainsFunc_Hit_hitOk_1 fu (by omega) _ _ _ V13) ?_
 refine zby ?_
 refine zz ?_
 refine s_as ?_
 refine zf (zd (zh (zm ?_)))
 cases F11
 exact zk [] [] Tryz.results32
 iterate 5 refine r_no rfl ?_
 refine zy ?_
 refine s_as ?_
 refine zf (zd (zh (zm ?_)))
 cases F10
 exact zk [] [] Tryz.results32
 iterate 4 refine r_no rfl ?_
 refine zy ?_
 refine s_mv ?_
 iterate 5 refine r_no rfl ?_
 refine zy ?_
 refine s_as ?_
 refine zf (zd (zh (zm ?_)))
 cases F9
 exact zk [] [] Tryz.results32
theorem m_impl_hitOk_1_st (fu : Nat) (ih_m_impl_hitOk : ∀ k, k ≤ fu → zcZ k) (ih_m_impl_hitOk_1 : ∀ k, k ≤ fu → zcT k) (ih_m_slices_ContainsFunc_Hit_hitOk_1 : ∀ k, k ≤ fu → zaf k) (ih_m_slices_IndexFunc_Hit_hitOk_1 : ∀ k, k ≤ fu → zam k) : zcT (fu + 1) := by
 intro x1 o1 r F0
 rw [zdn] at F0
 refine AC_i [.t (.sc (.bool r))] Tryz.func82 rfl Tryz.ntmps82 ?_
 intro C hC
 refine zb (za ?_)
 refine zbz ?_
 refine s_as ?_
 refine zf (zd (zb (za ?_)))
 refine s_fa yF38_0 ?_
 refine za1 yA27 yS27 ?_
 refine s_fa yF38_0 ?_
 refine za1 yA27 yS27 ?_
 obtain ⟨v1, V1, F1⟩ := zc F0
 refine zx [] (zbW fu _ _ _ V1) ?_
 refine zby ?_
 refine s_mv ?_
 refine zp _ 10 F1 ?_ ?_ <;> intro C2 F2
 iterate 6 refine r_no rfl ?_
 refine zz ?_
 refine s_mv ?_
 iterate 3 refine r_no rfl ?_
 refine zz ?_
 refine s_as ?_
 refine zf (zd (zh (zm ?_)))
 cases F2
 exact zk _ [] Tryz.results82
 refine s_fa yF38_1 ?_
 refine zv yA3 ?_
 refine s_fa yF38_1 ?_
 refine zv yA3 ?_
 refine zgS rfl ?_
 refine s_ne ?_
 refine zy ?_
 refine s_mv ?_
 refine zp _ 18 F2 ?_ ?_ <;> intro C3 F3
 iterate 3 refine r_no rfl ?_
 refine zz ?_
 refine s_as ?_
 refine zf (zd (zh (zm ?_)))
 cases F3
 exact zk _ [] Tryz.results82
 refine zI yA38 yS38 ?_
 obtain ⟨v4, V4, F4⟩ := zc F3
 refine zx [] (ih_m_impl_hitOk fu (by omega) _ _ V4) ?_
 refine zby ?_
 refine zy ?_
 refine s_as ?_
 refine zf (zd (zh (zm ?_)))
 cases F4
 exact zk _ [] Tryz.results82
theorem zeV (fu : Nat) (ih_m_impl_hitOk : ∀ k, k ≤ fu → zcZ k) (ih_m_impl_hitOk_1 : ∀ k, k ≤ fu → zcT k) (ih_m_slices_ContainsFunc_Hit_hitOk_1 : ∀ k, k ≤ fu → zaf k) (ih_m_slices_IndexFunc_Hit_hitOk_1 : ∀ k, k ≤ fu → zam k) : zaf (fu + 1) := by
 intro x1 o1 r F0
 rw [zaO] at F0
 refine AC_i [.t (.sc (.bool r))] Tryz.func81 rfl Tryz.ntmps81 ?_
 intro C hC
 refine zb (za ?_)
 refine s_as ?_
 refine zf (zd (zb (za ?_)))
 refine s_mv ?_
 refine s_mv ?_
 obtain ⟨v1, V1, F1⟩ := zc F0
 refine zN [(9000, 9000)] [] _ _ (ih_m_slices_IndexFunc_Hit_hitOk_1 fu (by omega) _ _ _ V1) ?_
 refine s_ge ?_
 refine s_as ?_
 refine zf (zd (zh (zm ?_)))
 cases F1
 exact zk _ [] Tryz.results81
theorem zfy (fu : Nat) (ih_m_impl_hitOk : ∀ k, k ≤ fu → zcZ k) (ih_m_impl_hitOk_1 : ∀ k, k ≤ fu → zcT k) (ih_m_slices_ContainsFunc_Hit_hitOk_1 : ∀ k, k ≤ fu → zaf k) (ih_m_slices_IndexFunc_Hit_hitOk_1 : ∀ k, k ≤ fu → zam k) : zam (fu + 1) := by
 intro x1 o1 r F0
 rw [za2] at F0
 refine AC_i [.t (.sc (.int .i64 r))] Tryz.func124 rfl Tryz.ntmps124 ?_
 intro C hC
 refine zb (za ?_)
 refine s_as ?_
 refine zf (zd (zb (zb (za ?_))))
 refine s_mv ?_
 refine zD yU30 ?_
 refine s_mv ?_
 refine zf (zd (zl ?_))
 refine zbu (β := Int) [4, 5, 8, 9, 10, 11, 12, 13, 14, 15, 16, 17, 18] [] [] (fun a => [(8, .t (.sc (.int .i64 a.2)))]) (fun a => []) (fun a => a.1 ≤ fu ∧ zaa a.1 x1 o1 a.2 = some r ∧ 0 ≤ a.2) (fu, 0) ⟨Nat.le_refl _, F0, by simp⟩ ?_
 clear F0
 rintro ⟨fu, g1⟩ ⟨hl2, F1, hn_g1⟩
 dsimp only at hl2 F1 hn_g1 ⊢
 obtain _ | fu := fu
 · rw [zaa] at F1; cases F1
 rw [zaa] at F1
 refine zb (za ?_)
 refine s_lt ?_
 refine zf (zd (zb ?_))
 refine zo F1 ?_ ?_ <;> intro C3 F2
 refine zT 0 (fun B4 => ?_)
 refine zi (zd (zb (zl (zb (za ?_)))))
 refine s_mv ?_
 refine s_as ?_
 refine zf (zd (zb (za ?_)))
 iterate 3 refine s_mv ?_
 obtain ⟨v5, V5, F3⟩ := zc F2
 refine z7 Hit.row V5 (Hit.row_eq _) yE30 ?_
 refine za1 yA38 yS38 ?_
 obtain ⟨v6, V6, F4⟩ := zc F3
 refine zN [(9000, 9000)] [] _ _ (ih_m_impl_hitOk_1 fu (by omega) _ _ _ V6) ?_
 refine zf (zd ?_)
 refine zo F4 ?_ ?_ <;> intro C7 F5
 refine zb (za ?_)
 refine s_mv ?_
 refine s_as ?_
 refine zf (zd (zh (zj (zg (zw (zj (zg (zm ?_))))))))
 cases F5
 exact zk _ [] Tryz.results124
 refine zi (zX (zd (za ?_)))
 refine zQ (zbg C3 B4 hn_g1) ?_
 refine s_mv ?_
 refine zf ?_
 exact s_rn (fu, (g1 + 1)) ⟨by first | omega | (dsimp only; omega), F5, by first | omega | (dsimp only; omega)⟩
 refine zC (zr (zq (zu (zd (zb (za ?_))))))
 refine s_as ?_
 refine zf (zd (zh (zm ?_)))
 cases F2
 exact zk _ [] Tryz.results124
theorem m_impl_hitOk_all (fuel : Nat) : zcZ fuel ∧ zcT fuel ∧ zaf fuel ∧ zam fuel := by
 induction fuel using Nat.strongRecOn with
 | _ N ih =>
   cases N with
   | zero => exact ⟨(by intro x1 r h; rw [zdG] at h; cases h), (by intro x1 o1 r h; rw [zdn] at h; cases h), (by intro x1 o1 r h; rw [zaO] at h; cases h), (by intro x1 o1 r h; rw [za2] at h; cases h)⟩
   | succ fu => exact ⟨m_impl_hitOk_st fu (fun k hk => (ih k (by omega)).1) (fun k hk => (ih k (by omega)).2.1) (fun k hk => (ih k (by omega)).2.2.1) (fun k hk => (ih k (by omega)).2.2.2), m_impl_hitOk_1_st fu (fun k hk => (ih k (by omega)).1) (fun k hk => (ih k (by omega)).2.1) (fun k hk => (ih k (by omega)).2.2.1) (fun k hk => (ih k (by omega)).2.2.2), zeV fu (fun k hk => (ih k (by omega)).1) (fun k hk => (ih k (by omega)).2.1) (fun k hk => (ih k (by omega)).2.2.1) (fun k hk => (ih k (by omega)).2.2.2), zfy fu (fun k hk => (ih k (by omega)).1) (fun k hk => (ih k (by omega)).2.1) (fun k hk => (ih k (by omega)).2.2.1) (fun k hk => (ih k (by omega)).2.2.2)⟩
theorem m_impl_hitOk_ok (fuel : Nat) : zcZ fuel := (m_impl_hitOk_all fuel).1
def zej (fuel : Nat) : Prop := ∀ (x1 : Hit) (x2 : (List Form)) (r : (List Form)), zcu fuel x1 x2 = some r → AC Tryz.prog 33 [.ag [.t (.sc (.int .i64 x1.name.kind)), .t (.sc (.str x1.name.name)), .t (.sc (.int .i64 x1.name.n)), .t (.sl (x1.name.scopes.map rI)), .t (.sl (x1.name.kids.map Form.row)), .t (.sc (.int .i64 x1.depth)), .t (.sc (.int .i64 x1.one.kind)), .t (.sc (.str x1.one.name)), .t (.sc (.int .i64 x1.one.n)), .t (.sl (x1.one.scopes.map rI)), .t (.sl (x1.one.kids.map Form.row)), .t (.sl (x1.many.map Hit.row))], .ar 9301] (objs [(9301, .arr (x2.map Form.row) 27 true)]) (.ar 9200) (objs [(9301, .dead), (9200, .arr (r.map Form.row) 27 true)])
theorem m_impl_hitForms_st (fu : Nat) (ih_m_impl_hitForms : ∀ k, k ≤ fu → zej k) : zej (fu + 1) := by
 intro x1 x2 r F0
 rw [zcu] at F0
 refine AC_i [.ar 9200] Tryz.func33 rfl Tryz.ntmps33 ?_
 intro C hC
 refine zb (za ?_)
 refine zbz ?_
 refine s_as ?_
 refine zf (zd (zb (zb (za ?_))))
 refine s_fa yF38_1 ?_
 refine zv yA3 ?_
 refine s_eq ?_
 refine zf (zd ?_)
 refine zo F0 ?_ ?_ <;> intro C1 F1
 refine zb (za ?_)
 refine s_mv ?_
 refine s_fa yF38_2 ?_
 refine za1 yA27 yS27 ?_
 obtain ⟨v2, V2, F2⟩ := zc F1
 refine zx [] (zcB fu _ _ V2) ?_
 refine s_bs Form.row [v2] yP25 yR27 ?_
 obtain ⟨hk3, F3⟩ := zai F2
 refine zfo Form.row (fun y => Form.row_len y) hk3 yP25 ?_
 refine s_as ?_
 refine zf (zd ?_)
 refine zcy 4 15 9200 (by conv => lhs; whnf) (by conv => lhs; whnf) rfl ?_
 refine zh (zg (zm ?_))
 cases F3
 exact zk _ [] Tryz.results33
 refine zi (zd (zb (zb (za ?_))))
 refine s_fa zgo ?_
 refine zv yA30 ?_
 refine zD yU30 ?_
 refine s_mv ?_
 refine zf (zd (zl ?_))
 refine zcy 1 9301 5020 (by conv => lhs; whnf) (by conv => lhs; whnf) rfl ?_
 refine zax [1, 6, 19, 20, 21, 22, 23, 24, 25, 26] [5020] [6, 12025] [5020] (fun a : Nat × (List Form) × Int => a.1) (fun a : Nat × (List Form) × Int => [(1, .ar 5020), (19, .t (.sc (.int .i64 a.2.2)))]) (fun a : Nat × (List Form) × Int => [(5020, .arr (a.2.1.map Form.row) 27 true)]) (fun a : Nat × (List Form) × Int => a.1 ≤ fu ∧ zan a.1 x1 a.2.1 a.2.2 = some r ∧ 0 ≤ a.2.2) (fu, x2, 0) ⟨Nat.le_refl _, F1, by simp⟩ (by rfl) (by rfl) (fun _ => rfl) (zL (by conv => lhs; whnf) (by rfl) (zL (by conv => lhs; whnf) (by rfl) zbx)) (zP (by conv => lhs; whnf) (by rfl) zbm) (zcx hC rfl) (by repeat (first | exact zak rfl | refine zaG rfl ?_ | refine zZ rfl ?_)) (by repeat (first | exact za3 | exact zas rfl | refine zaH rfl ?_ | refine z6 rfl ?_)) ?_
 clear F1
 rintro ⟨fu, g4, g5⟩ ⟨hl6, F2, hn_g5⟩
 dsimp only at hl6 F2 hn_g5 ⊢
 obtain _ | fu := fu
 · rw [zan] at F2; cases F2
 rw [zan] at F2
 refine zb (za ?_)
 refine s_lt ?_
 refine zf (zd (zb ?_))
 refine zo F2 ?_ ?_ <;> intro C7 F3
 refine zT 17 (fun B8 => ?_)
 refine zi (zd (zb (zl (zb (za ?_)))))
 obtain ⟨v9, V9, F4⟩ := zc F3
 refine z7 Hit.row V9 (Hit.row_eq _) yE30 ?_
 refine za1 yA38 yS38 ?_
 refine zY yZ38 ?_
 refine zap yS38 ?_
 refine zf (zd (za ?_))
 refine zI yA38 yS38 ?_
 refine s_mv ?_
 obtain ⟨v10, V10, F5⟩ := zc F4
 refine zN [(9301, 5020), (9200, 12025)] [] _ _ (ih_m_impl_hitForms fu (by omega) _ _ _ V10) ?_
 refine s_as ?_
 refine zf (zX (zd (za ?_)))
 refine zQ (zbg C7 B8 hn_g5) ?_
 refine s_mv ?_
 refine zf ?_
 exact s_rn (fu, v10, (g5 + 1)) ⟨by first | omega | (dsimp only; omega), F5, by first | omega | (dsimp only; omega)⟩ [(5020, 12025)]
 refine zC (zr (zq (zu (zd (zb (za ?_))))))
 refine s_mv ?_
 refine s_as ?_
 refine zf (zd ?_)
 refine zcy 4 5020 9200 (by conv => lhs; whnf) (by conv => lhs; whnf) rfl ?_
 refine zh (zm ?_)
 cases F3
 exact zk _ [] Tryz.results33
theorem m_impl_hitForms_all (fuel : Nat) : zej fuel := by
 induction fuel using Nat.strongRecOn with
 | _ N ih =>
   cases N with
   | zero => exact (by intro x1 x2 r h; rw [zcu] at h; cases h)
   | succ fu => exact m_impl_hitForms_st fu (fun k hk => (ih k (by omega)))
theorem m_impl_hitForms_ok (fuel : Nat) : zej fuel := (m_impl_hitForms_all fuel)
def m_impl_hitForms_n_AC (fuel : Nat) : Prop := ∀ (x1 : Hit) (r : (List Form)), zeN fuel x1 = some r → AC Tryz.prog 33 [.ag [.t (.sc (.int .i64 x1.name.kind)), .t (.sc (.str x1.name.name)), .t (.sc (.int .i64 x1.name.n)), .t (.sl (x1.name.scopes.map rI)), .t (.sl (x1.name.kids.map Form.row)), .t (.sc (.int .i64 x1.depth)), .t (.sc (.int .i64 x1.one.kind)), .t (.sc (.str x1.one.name)), .t (.sc (.int .i64 x1.one.n)), .t (.sl (x1.one.scopes.map rI)), .t (.sl (x1.one.kids.map Form.row)), .t (.sl (x1.many.map Hit.row))], .nl] (objs []) (.ar 9200) (objs [(9200, .arr (r.map Form.row) 27 true)])
theorem m_impl_hitForms_n_ok (fuel : Nat) : m_impl_hitForms_n_AC fuel := by
 intro x1 r F0
 unfold zeN at F0
 refine AC_i [.ar 9200] Tryz.func33 rfl Tryz.ntmps33 ?_
 intro C hC
 refine zb (za ?_)
 refine zbz ?_
 refine s_as ?_
 refine zf (zd (zb (zb (za ?_))))
 refine s_fa yF38_1 ?_
 refine zv yA3 ?_
 refine s_eq ?_
 refine zf (zd ?_)
 refine zo F0 ?_ ?_ <;> intro C1 F1
 refine zb (za ?_)
 refine s_mv ?_
 refine s_fa yF38_2 ?_
 refine za1 yA27 yS27 ?_
 obtain ⟨v2, V2, F2⟩ := zc F1
 refine zx [] (zcB fuel _ _ V2) ?_
 refine s_bs Form.row [v2] yP25 yR27 ?_
 obtain ⟨hk3, F3⟩ := zai F2
 refine s_apN Form.row (fun y => Form.row_len y) hk3 yP25 ?_
 refine s_as ?_
 refine zf (zd ?_)
 refine zcy 4 15 9200 (by conv => lhs; whnf) (by conv => lhs; whnf) rfl ?_
 refine zh (zg (zm ?_))
 cases F3
 exact zk _ [] Tryz.results33
 refine zi (zd (zb (zb (za ?_))))
 refine s_fa zgo ?_
 refine zv yA30 ?_
 refine zD yU30 ?_
 refine s_mv ?_
 refine zf (zd (zl ?_))
 refine awp_own 1 5020 27 yI27.choose_spec ?_
 refine zax [1, 6, 19, 20, 21, 22, 23, 24, 25, 26] [5020] [6, 12025] [5020] (fun a : Nat × (List Form) × Int => a.1) (fun a : Nat × (List Form) × Int => [(1, .ar 5020), (19, .t (.sc (.int .i64 a.2.2)))]) (fun a : Nat × (List Form) × Int => [(5020, .arr (a.2.1.map Form.row) 27 true)]) (fun a : Nat × (List Form) × Int => a.1 ≤ fuel ∧ zan a.1 x1 a.2.1 a.2.2 = some r ∧ 0 ≤ a.2.2) (fuel, ([] : List Form), 0) ⟨Nat.le_refl _, F1, by simp⟩ (by rfl) (by rfl) (fun _ => rfl) (zL (by conv => lhs; whnf) (by rfl) (zL (by conv => lhs; whnf) (by rfl) zbx)) (zP (by conv => lhs; whnf) (by rfl) zbm) (zcx hC rfl) (by repeat (first | exact zak rfl | refine zaG rfl ?_ | refine zZ rfl ?_)) (by repeat (first | exact za3 | exact zas rfl | refine zaH rfl ?_ | refine z6 rfl ?_)) ?_
 clear F1
 rintro ⟨fu, g4, g5⟩ ⟨hl6, F2, hn_g5⟩
 dsimp only at hl6 F2 hn_g5 ⊢
 obtain _ | fu := fu
 · rw [zan] at F2; cases F2
 rw [zan] at F2
 refine zb (za ?_)
 refine s_lt ?_
 refine zf (zd (zb ?_))
 refine zo F2 ?_ ?_ <;> intro C7 F3
 refine zT 17 (fun B8 => ?_)
 refine zi (zd (zb (zl (zb (za ?_)))))
 obtain ⟨v9, V9, F4⟩ := zc F3
 refine z7 Hit.row V9 (Hit.row_eq _) yE30 ?_
 refine za1 yA38 yS38 ?_
 refine zY yZ38 ?_
 refine zap yS38 ?_
 refine zf (zd (za ?_))
 refine zI yA38 yS38 ?_
 refine s_mv ?_
 obtain ⟨v10, V10, F5⟩ := zc F4
 refine zN [(9301, 5020), (9200, 12025)] [] _ _ (m_impl_hitForms_ok fu _ _ _ V10) ?_
 refine s_as ?_
 refine zf (zX (zd (za ?_)))
 refine zQ (zbg C7 B8 hn_g5) ?_
 refine s_mv ?_
 refine zf ?_
 exact s_rn (fu, v10, (g5 + 1)) ⟨by first | omega | (dsimp only; omega), F5, by first | omega | (dsimp only; omega)⟩ [(5020, 12025)]
 refine zC (zr (zq (zu (zd (zb (za ?_))))))
 refine s_mv ?_
 refine s_as ?_
 refine zf (zd ?_)
 refine zcy 4 5020 9200 (by conv => lhs; whnf) (by conv => lhs; whnf) rfl ?_
 refine zh (zm ?_)
 cases F3
 exact zk _ [] Tryz.results33
def m_impl_HitForms_AC (fuel : Nat) : Prop := ∀ (x1 : Hit) (r : (List Form)), zdA fuel x1 = some r → AC Tryz.prog 10 [.ag [.t (.sc (.int .i64 x1.name.kind)), .t (.sc (.str x1.name.name)), .t (.sc (.int .i64 x1.name.n)), .t (.sl (x1.name.scopes.map rI)), .t (.sl (x1.name.kids.map Form.row)), .t (.sc (.int .i64 x1.depth)), .t (.sc (.int .i64 x1.one.kind)), .t (.sc (.str x1.one.name)), .t (.sc (.int .i64 x1.one.n)), .t (.sl (x1.one.scopes.map rI)), .t (.sl (x1.one.kids.map Form.row)), .t (.sl (x1.many.map Hit.row))]] noOb (.t (.sl (r.map Form.row))) noOb
theorem zgM (fuel : Nat) : m_impl_HitForms_AC fuel := by
 intro x1 r F0
 unfold zdA at F0
 refine AC_i [.t (.sl (r.map Form.row))] Tryz.func10 rfl Tryz.ntmps10 ?_
 intro C hC
 refine zb (za ?_)
 refine zbz ?_
 refine s_as ?_
 refine zf (zd (zb (zb (za ?_))))
 refine zI yA38 yS38 ?_
 obtain ⟨v1, V1, F1⟩ := zc F0
 refine zx [] (m_impl_hitOk_ok fuel _ _ V1) ?_
 refine zby ?_
 refine zf (zd ?_)
 refine zo F1 ?_ ?_ <;> intro C2 F2
 refine zb (za ?_)
 refine s_as ?_
 refine zf (zd (zh (zg (zm ?_))))
 cases F2
 exact zk [] [] Tryz.results10
 refine zi (zd (zb (za ?_)))
 refine zI yA38 yS38 ?_
 obtain ⟨v3, V3, F3⟩ := zc F2
 refine zN [(9200, 2007)] [] _ _ (m_impl_hitForms_n_ok fuel _ _ V3) ?_
 refine s_as ?_
 refine zf (zd (zh (zm ?_)))
 cases F3
 exact zk [] [2007] Tryz.results10
end Go.Abs
