/- A part of the proof: what the functions that the law calls answer, as pure values. -/
import Derived.Test.YtcllpfmjggkpnaaGreatK0d35fd5f33ad
import Derived.Test.YtcllpfmjggkpnaaGreatK73f09199af94
import Derived.Test.YtcllpfmjggkpnaaGreatKa15390ddf9b4
import Derived.Test.YtcllpfmjggkpnaaGreatK0c150a8b573b
import Derived.Test.YtcllpfmjggkpnaaGreatK50fa35a3b9d2
import Derived.Test.YtcllpfmjggkpnaaGreatK98a493ba4651
set_option linter.unusedSimpArgs false
set_option linter.unusedVariables false
set_option maxRecDepth 100000
set_option maxHeartbeats 4000000
namespace Go.Abs
open Go.Proofs
def m_spec_l15Rd_of_AC (fuel : Nat) : Prop := ∀ (o1 : zb9) (x2 : (List ByteArray)) (r : (ByteArray × zb9)), zcW fuel o1 x2 = some r → AC Tryz.prog 87 [.rf 9000 0, .t (.sl (x2.map rS))] (objs [(9000, .box [.t (.sl (o1.b.map rB)), .t (.sc (.int .i64 o1.p))])]) (.t (.sc (.str r.1))) (objs [(9000, .box [.t (.sl (r.2.b.map rB)), .t (.sc (.int .i64 r.2.p))])])
theorem zgI (fuel : Nat) : m_spec_l15Rd_of_AC fuel := by
 intro o1 x2 r F0
 unfold zcW at F0
 refine AC_i [.t (.sc (.str r.1))] Tryz.func87 rfl Tryz.ntmps87 ?_
 intro C hC
 refine zb (za ?_)
 refine s_as ?_
 refine zf (zd (zb (za ?_)))
 iterate 3 refine s_mv ?_
 refine zD yU70 ?_
 obtain ⟨v1, V1, F1⟩ := zc F0
 refine zN [(9000, 9000)] [] _ _ (zar fuel _ _ _ V1) ?_
 obtain ⟨v2, V2, F2⟩ := zc F1
 refine z7 rS V2 rfl yE70 ?_
 refine zv yA9 ?_
 refine s_as ?_
 refine zf (zd (zh (zm ?_)))
 cases F2
 exact zk _ [] Tryz.results87
def zeg (fuel : Nat) : Prop := ∀ (o1 : zb9) (x2 : Form) (r : (Form × zb9)), za8 fuel o1 x2 = some r → AC Tryz.prog 46 [.rf 9000 0, .ag [.t (.sc (.int .i64 x2.kind)), .t (.sc (.str x2.name)), .t (.sc (.int .i64 x2.n)), .t (.sl (x2.scopes.map rI)), .t (.sl (x2.kids.map Form.row))]] (objs [(9000, .box [.t (.sl (o1.b.map rB)), .t (.sc (.int .i64 o1.p))])]) (.ag [.t (.sc (.int .i64 r.1.kind)), .t (.sc (.str r.1.name)), .t (.sc (.int .i64 r.1.n)), .t (.sl (r.1.scopes.map rI)), .t (.sl (r.1.kids.map Form.row))]) (objs [(9000, .box [.t (.sl (r.2.b.map rB)), .t (.sc (.int .i64 r.2.p))])])
theorem m_spec_l1Mutate_st (fu : Nat) (ih_m_spec_l1Mutate : ∀ k, k ≤ fu → zeg k) : zeg (fu + 1) := by
 intro o1 x2 r F0
 rw [za8] at F0
 refine AC_i [.ag [.t (.sc (.int .i64 r.1.kind)), .t (.sc (.str r.1.name)), .t (.sc (.int .i64 r.1.n)), .t (.sl (r.1.scopes.map rI)), .t (.sl (r.1.kids.map Form.row))]] Tryz.func46 rfl Tryz.ntmps46 ?_
 intro C hC
 refine zb (za ?_)
 refine zbz ?_
 refine zY yZ27 ?_
 refine zf (zd (zb (za ?_)))
 refine zI yA27 yS27 ?_
 obtain ⟨v1, V1, F1⟩ := zc F0
 refine zN [(9203, 2008), (9204, 12008)] [] _ _ (ze6 fu _ _ V1) ?_
 refine zY yZ27 ?_
 refine zap yS27 ?_
 refine zf (zd (zb (zb (za ?_))))
 refine s_fa zR ?_
 refine zv yA25 ?_
 refine zgq yU25 ?_
 refine s_gt ?_
 refine s_mv ?_
 refine zp _ 13 F1 ?_ ?_ <;> intro C2 F2
 refine s_mv ?_
 obtain ⟨v3, V3, F3⟩ := zc F2
 refine zN [(9000, 9000)] [] _ _ (zar fu _ _ _ V3) ?_
 refine s_gt ?_
 refine zz ?_
 refine zf (zd ?_)
 refine zo F3 ?_ ?_ <;> intro C4 F4
 refine zb (za ?_)
 refine s_mv ?_
 refine s_fa zR ?_
 refine zv yA25 ?_
 refine zgq yU25 ?_
 obtain ⟨v5, V5, F5⟩ := zc F4
 refine zN [(9000, 9000)] [] _ _ (zar fu _ _ _ V5) ?_
 refine s_as ?_
 refine zf (zd (zb ?_))
 refine zW yMix (by kernel_rfl) ?_
 refine s_fa zR ?_
 refine zv yA25 ?_
 refine s_mv ?_
 refine zfK ?_
 refine s_fa zR ?_
 refine zv yA25 ?_
 refine s_mv ?_
 obtain ⟨v6, V6, F6⟩ := zc F5
 refine s_ixA Form.row V6 yE25 ?_
 refine s_lAN Form.row V6 (Form.row_eq _) yA27 yS27 ?_
 obtain ⟨v7, V7, F7⟩ := zc F6
 refine zN [(9000, 9000)] [] _ _ (ih_m_spec_l1Mutate fu (by omega) _ _ _ V7) ?_
 obtain ⟨v8, V8, F8⟩ := zc F7
 refine s_ixA Form.row V8 yE25 ?_
 refine s_stA Form.row v7.1 V8 (Form.row_eq _) (Form.row_eq _) yS27 yS27 ?_
 refine zaA (by kernel_rfl) ?_
 refine zd (zb (za ?_))
 refine zI yA27 yS27 ?_
 refine zap yS27 ?_
 refine zf (zd (zh (zg (zm ?_))))
 cases F8
 exact zag _ [2008, 12008] (by rw [Tryz.results46]; exact (zal (by conv => lhs; whnf) (by conv => lhs; whnf) yA27 yS27 rfl zaq))
 refine zi (zd (zb (zb (za ?_))))
 refine s_mv ?_
 obtain ⟨v9, V9, F5⟩ := zc F4
 refine zN [(9000, 9000)] [] _ _ (zar fu _ _ _ V9) ?_
 refine zf (zd (zl (zb (za ?_))))
 refine s_eq ?_
 refine s_as ?_
 refine zf (zd ?_)
 refine zo F5 ?_ ?_ <;> intro C10 F6
 refine za ?_
 refine s_mv ?_
 refine s_bs rI [0, 4, 1, 3] yP24 yR3 ?_
 obtain ⟨v11, V11, F7⟩ := zc F6
 refine zN [(9000, 9000)] [40] _ _ (zcd fu _ _ _ V11) ?_
 refine s_fa zdF ?_
 refine s_stP yS3 ?_
 refine zf (zX (zd (zb (za ?_))))
 refine zI yA27 yS27 ?_
 refine zap yS27 ?_
 refine zf (zd (zh (zm ?_)))
 cases F7
 exact zag _ [2008, 12008] (by rw [Tryz.results46]; exact (zal (by conv => lhs; whnf) (by conv => lhs; whnf) yA27 yS27 rfl zaq))
 refine zb (za ?_)
 refine s_eq ?_
 refine s_as ?_
 refine zf (zd ?_)
 refine zo F6 ?_ ?_ <;> intro C12 F7
 refine za ?_
 refine s_mv ?_
 refine s_bs rS [(⟨#[]⟩ : ByteArray), (⟨#[65]⟩ : ByteArray), (⟨#[116, 111, 111, 108, 111, 110, 103, 97, 110, 97, 109, 101, 49]⟩ : ByteArray), (⟨#[122]⟩ : ByteArray), (⟨#[120, 32, 121]⟩ : ByteArray)] yP70 yR9 ?_
 obtain ⟨v13, V13, F8⟩ := zc F7
 refine zN [(9000, 9000)] [46] _ _ (zgI fu _ _ _ V13) ?_
 refine s_fa zbQ ?_
 refine s_stP yS9 ?_
 refine zf (zX (zd (zb (za ?_))))
 refine zI yA27 yS27 ?_
 refine zap yS27 ?_
 refine zf (zd (zh (zm ?_)))
 cases F8
 exact zag _ [2008, 12008] (by rw [Tryz.results46]; exact (zal (by conv => lhs; whnf) (by conv => lhs; whnf) yA27 yS27 rfl zaq))
 refine zb (za ?_)
 refine s_eq ?_
 refine s_as ?_
 refine zf (zd ?_)
 refine zo F7 ?_ ?_ <;> intro C14 F8
 refine za ?_
 refine s_mv ?_
 refine s_bs rI [1000, (-1), 5] yP24 yR3 ?_
 obtain ⟨v15, V15, F9⟩ := zc F8
 refine zN [(9000, 9000)] [52] _ _ (zcd fu _ _ _ V15) ?_
 refine s_fa zgf ?_
 refine s_stP yS3 ?_
 refine zf (zX (zd (zb (za ?_))))
 refine zI yA27 yS27 ?_
 refine zap yS27 ?_
 refine zf (zd (zh (zm ?_)))
 cases F9
 exact zag _ [2008, 12008] (by rw [Tryz.results46]; exact (zal (by conv => lhs; whnf) (by conv => lhs; whnf) yA27 yS27 rfl zaq))
 refine zb (za ?_)
 refine s_eq ?_
 refine s_as ?_
 refine zf (zd ?_)
 refine zo F8 ?_ ?_ <;> intro C16 F9
 refine zW yMix (by kernel_rfl) ?_
 refine s_fa zeQ ?_
 refine zv yA24 ?_
 refine zfK ?_
 refine s_bs rI [0, 100, 1, 50] yP24 yR3 ?_
 obtain ⟨v17, V17, F10⟩ := zc F9
 refine zN [(9000, 9000)] [60] _ _ (zcd fu _ _ _ V17) ?_
 refine s_bs rI [v17.1] yP24 yR3 ?_
 obtain ⟨hk18, F11⟩ := zai F10
 refine zfo rI (fun _ => rfl) hk18 yP24 ?_
 refine s_fa zeQ ?_
 refine s_stP yS24 ?_
 refine zaA (by kernel_rfl) ?_
 refine zX (zd (zb (za ?_)))
 refine zI yA27 yS27 ?_
 refine zap yS27 ?_
 refine zf (zd (zh (zm ?_)))
 cases F11
 exact zag _ [63, 12008] (by rw [Tryz.results46]; exact (zal (by conv => lhs; whnf) (by conv => lhs; whnf) yA27 yS27 rfl zaq))
 refine zi (zX (zd (zb (za ?_))))
 refine zI yA27 yS27 ?_
 refine zap yS27 ?_
 refine zf (zd (zh (zm ?_)))
 cases F9
 exact zag _ [2008, 12008] (by rw [Tryz.results46]; exact (zal (by conv => lhs; whnf) (by conv => lhs; whnf) yA27 yS27 rfl zaq))
 iterate 3 refine r_no rfl ?_
 refine zy ?_
 refine zf (zd (zbn rfl (zi (zd (zb (zb (za ?_)))))))
 refine s_mv ?_
 obtain ⟨v19, V19, F3⟩ := zc F2
 refine zN [(9000, 9000)] [] _ _ (zar fu _ _ _ V19) ?_
 refine zf (zd (zl (zb (za ?_))))
 refine s_eq ?_
 refine s_as ?_
 refine zf (zd ?_)
 refine zo F3 ?_ ?_ <;> intro C20 F4
 refine za ?_
 refine s_mv ?_
 refine s_bs rI [0, 4, 1, 3] yP24 yR3 ?_
 obtain ⟨v21, V21, F5⟩ := zc F4
 refine zN [(9000, 9000)] [40] _ _ (zcd fu _ _ _ V21) ?_
 refine s_fa zdF ?_
 refine s_stP yS3 ?_
 refine zf (zX (zd (zb (za ?_))))
 refine zI yA27 yS27 ?_
 refine zap yS27 ?_
 refine zf (zd (zh (zm ?_)))
 cases F5
 exact zag _ [2008, 12008] (by rw [Tryz.results46]; exact (zal (by conv => lhs; whnf) (by conv => lhs; whnf) yA27 yS27 rfl zaq))
 refine zb (za ?_)
 refine s_eq ?_
 refine s_as ?_
 refine zf (zd ?_)
 refine zo F4 ?_ ?_ <;> intro C22 F5
 refine za ?_
 refine s_mv ?_
 refine s_bs rS [(⟨#[]⟩ : ByteArray), (⟨#[65]⟩ : ByteArray), (⟨#[116, 111, 111, 108, 111, 110, 103, 97, 110, 97, 109, 101, 49]⟩ : ByteArray), (⟨#[122]⟩ : ByteArray), (⟨#[120, 32, 121]⟩ : ByteArray)] yP70 yR9 ?_
 obtain ⟨v23, V23, F6⟩ := zc F5
 refine zN [(9000, 9000)] [46] _ _ (zgI fu _ _ _ V23) ?_
 refine s_fa zbQ ?_
 refine s_stP yS9 ?_
 refine zf (zX (zd (zb (za ?_))))
 refine zI yA27 yS27 ?_
 refine zap yS27 ?_
 refine zf (zd (zh (zm ?_)))
 cases F6
 exact zag _ [2008, 12008] (by rw [Tryz.results46]; exact (zal (by conv => lhs; whnf) (by conv => lhs; whnf) yA27 yS27 rfl zaq))
 refine zb (za ?_)
 refine s_eq ?_
 refine s_as ?_
 refine zf (zd ?_)
 refine zo F5 ?_ ?_ <;> intro C24 F6
 refine za ?_
 refine s_mv ?_
 refine s_bs rI [1000, (-1), 5] yP24 yR3 ?_
 obtain ⟨v25, V25, F7⟩ := zc F6
 refine zN [(9000, 9000)] [52] _ _ (zcd fu _ _ _ V25) ?_
 refine s_fa zgf ?_
 refine s_stP yS3 ?_
 refine zf (zX (zd (zb (za ?_))))
 refine zI yA27 yS27 ?_
 refine zap yS27 ?_
 refine zf (zd (zh (zm ?_)))
 cases F7
 exact zag _ [2008, 12008] (by rw [Tryz.results46]; exact (zal (by conv => lhs; whnf) (by conv => lhs; whnf) yA27 yS27 rfl zaq))
 refine zb (za ?_)
 refine s_eq ?_
 refine s_as ?_
 refine zf (zd ?_)
 refine zo F6 ?_ ?_ <;> intro C26 F7
 refine zW yMix (by kernel_rfl) ?_
 refine s_fa zeQ ?_
 refine zv yA24 ?_
 refine zfK ?_
 refine s_bs rI [0, 100, 1, 50] yP24 yR3 ?_
 obtain ⟨v27, V27, F8⟩ := zc F7
 refine zN [(9000, 9000)] [60] _ _ (zcd fu _ _ _ V27) ?_
 refine s_bs rI [v27.1] yP24 yR3 ?_
 obtain ⟨hk28, F9⟩ := zai F8
 refine zfo rI (fun _ => rfl) hk28 yP24 ?_
 refine s_fa zeQ ?_
 refine s_stP yS24 ?_
 refine zaA (by kernel_rfl) ?_
 refine zX (zd (zb (za ?_)))
 refine zI yA27 yS27 ?_
 refine zap yS27 ?_
 refine zf (zd (zh (zm ?_)))
 cases F9
 exact zag _ [63, 12008] (by rw [Tryz.results46]; exact (zal (by conv => lhs; whnf) (by conv => lhs; whnf) yA27 yS27 rfl zaq))
 refine zi (zX (zd (zb (za ?_))))
 refine zI yA27 yS27 ?_
 refine zap yS27 ?_
 refine zf (zd (zh (zm ?_)))
 cases F7
 exact zag _ [2008, 12008] (by rw [Tryz.results46]; exact (zal (by conv => lhs; whnf) (by conv => lhs; whnf) yA27 yS27 rfl zaq))
theorem m_spec_l1Mutate_all (fuel : Nat) : zeg fuel := by
 induction fuel using Nat.strongRecOn with
 | _ N ih =>
   cases N with
   | zero => exact (by intro o1 x2 r h; rw [za8] at h; cases h)
   | succ fu => exact m_spec_l1Mutate_st fu (fun k hk => (ih k (by omega)))
theorem zef (fuel : Nat) : zeg fuel := (m_spec_l1Mutate_all fuel)
def zeI (fuel : Nat) : Prop := ∀ (o1 : zb9) (x2 : Form) (r : (Form × zb9)), zbF fuel o1 x2 = some r → AC Tryz.prog 47 [.rf 9000 0, .ag [.t (.sc (.int .i64 x2.kind)), .t (.sc (.str x2.name)), .t (.sc (.int .i64 x2.n)), .t (.sl (x2.scopes.map rI)), .t (.sl (x2.kids.map Form.row))]] (objs [(9000, .box [.t (.sl (o1.b.map rB)), .t (.sc (.int .i64 o1.p))])]) (.ag [.t (.sc (.int .i64 r.1.kind)), .t (.sc (.str r.1.name)), .t (.sc (.int .i64 r.1.n)), .t (.sl (r.1.scopes.map rI)), .t (.sl (r.1.kids.map Form.row))]) (objs [(9000, .box [.t (.sl (r.2.b.map rB)), .t (.sc (.int .i64 r.2.p))])])
theorem m_spec_l1Dress_st (fu : Nat) (ih_m_spec_l1Dress : ∀ k, k ≤ fu → zeI k) : zeI (fu + 1) := by
 intro o1 x2 r F0
 rw [zbF] at F0
 refine AC_i [.ag [.t (.sc (.int .i64 r.1.kind)), .t (.sc (.str r.1.name)), .t (.sc (.int .i64 r.1.n)), .t (.sl (r.1.scopes.map rI)), .t (.sl (r.1.kids.map Form.row))]] Tryz.func47 rfl Tryz.ntmps47 ?_
 intro C hC
 refine zb (za ?_)
 refine zbz ?_
 refine zY yZ27 ?_
 refine zf (zd (zb (za ?_)))
 refine zI yA27 yS27 ?_
 obtain ⟨v1, V1, F1⟩ := zc F0
 refine zN [(9203, 2009), (9204, 12009)] [] _ _ (ze6 fu _ _ V1) ?_
 refine zY yZ27 ?_
 refine zap yS27 ?_
 refine zf (zd (zb (zb (za ?_))))
 refine s_fa zdF ?_
 refine zv yA3 ?_
 refine s_eq ?_
 refine zf (zd ?_)
 refine zo F1 ?_ ?_ <;> intro C2 F2
 refine zb (za ?_)
 refine s_bs rI ([] : List Int) yP24 yR3 ?_
 refine s_bs rI [1] yP24 yR3 ?_
 refine s_bs rI [2] yP24 yR3 ?_
 refine s_bs rI [1, 2] yP24 yR3 ?_
 refine s_bs rI [1, 3] yP24 yR3 ?_
 refine s_bs rI [1, 2, 3] yP24 yR3 ?_
 refine s_bs rI [99] yP24 yR3 ?_
 refine s_bs (rL rI) [([] : List Int), [1], [2], [1, 2], [1, 3], [1, 2, 3], [99]] yP119 yR24 ?_
 refine s_as ?_
 refine zf (zd (za ?_))
 refine s_bs rI ([] : List Int) yP24 yR3 ?_
 iterate 3 refine s_mv ?_
 refine zgq yU119 ?_
 obtain ⟨v3, V3, F3⟩ := zc F2
 refine zN [(9000, 9000)] [] _ _ (zar fu _ _ _ V3) ?_
 obtain ⟨v4, V4, F4⟩ := zc F3
 refine s_ixA (rL rI) V4 yE119 ?_
 refine s_lA1 (rL rI) V4 rfl yA24 ?_
 obtain ⟨hk5, F5⟩ := zai F4
 refine zfo rI (fun _ => rfl) hk5 yP24 ?_
 refine s_fa zeQ ?_
 refine s_stP yS24 ?_
 refine zf (zd (zb (zb (za ?_))))
 refine s_as ?_
 refine zf (zd (zl ?_))
 refine zbu (β := Int × (List Int) × Int × (List Form)) [7, 31, 32, 33, 34, 35, 36, 37, 38, 39, 40, 41, 42, 43, 44, 45, 46, 47, 48] [9000, 12009] [] (fun a => [(7, .t (.sc (.int .i64 a.2.1)))]) (fun a => [(9000, .box [.t (.sl (a.2.2.1.map rB)), .t (.sc (.int .i64 a.2.2.2.1))]), (12009, .arr (a.2.2.2.2.map Form.row) 27 true)]) (fun a => a.1 ≤ fu ∧ zcc a.1 v1 v4 a.2.1 a.2.2.1 a.2.2.2.1 a.2.2.2.2 = some r ∧ 0 ≤ a.2.1) (fu, 0, v3.2.b, v3.2.p, v1.kids) ⟨Nat.le_refl _, F5, by simp⟩ ?_
 clear F5
 rintro ⟨fu, g6, g7, g8, g9⟩ ⟨hl10, F6, hn_g6⟩
 dsimp only at hl10 F6 hn_g6 ⊢
 obtain _ | fu := fu
 · rw [zcc] at F6; cases F6
 rw [zcc] at F6
 refine zb (zb (za ?_))
 refine s_mv ?_
 refine s_fa zR ?_
 refine zv yA25 ?_
 refine zgq yU25 ?_
 refine s_lt ?_
 refine zf (zd ?_)
 refine zo F6 ?_ ?_ <;> intro C11 F7
 refine awp_lenA 33 12009 (fun B12 => ?_)
 refine zi (zd (zb (zl ?_)))
 refine zW yMix (by kernel_rfl) ?_
 refine s_fa zR ?_
 refine zv yA25 ?_
 refine s_mv ?_
 refine zfK ?_
 refine s_fa zR ?_
 refine zv yA25 ?_
 refine s_mv ?_
 obtain ⟨v13, V13, F8⟩ := zc F7
 refine s_ixA Form.row V13 yE25 ?_
 refine s_lAN Form.row V13 (Form.row_eq _) yA27 yS27 ?_
 obtain ⟨v14, V14, F9⟩ := zc F8
 refine zN [(9000, 9000)] [] _ _ (ih_m_spec_l1Dress fu (by omega) _ _ _ V14) ?_
 obtain ⟨v15, V15, F10⟩ := zc F9
 refine s_ixA Form.row V15 yE25 ?_
 refine s_stA Form.row v14.1 V15 (Form.row_eq _) (Form.row_eq _) yS27 yS27 ?_
 refine zaA (by kernel_rfl) ?_
 refine zX (zd (za ?_))
 refine s_mv ?_
 refine zQ (zbg C11 B12 hn_g6) ?_
 refine s_as ?_
 refine zf ?_
 exact s_rn (fu, (g6 + 1), v14.2.b, v14.2.p, (g9.set g6.toNat v14.1)) ⟨by first | omega | (dsimp only; omega), F10, by first | omega | (dsimp only; omega)⟩
 refine zC (zr (zq (zu (zd (zb (za ?_))))))
 refine zI yA27 yS27 ?_
 refine zap yS27 ?_
 refine zf (zd (zh (zm ?_)))
 cases F7
 exact zag _ [29, 12009] (by rw [Tryz.results47]; exact (zal (by conv => lhs; whnf) (by conv => lhs; whnf) yA27 yS27 rfl zaq))
 refine zi (zd (zb (zb (za ?_))))
 refine s_as ?_
 refine zf (zd (zl ?_))
 refine zbu (β := Int × (List Int) × Int × (List Form)) [7, 31, 32, 33, 34, 35, 36, 37, 38, 39, 40, 41, 42, 43, 44, 45, 46, 47, 48] [9000, 12009] [] (fun a => [(7, .t (.sc (.int .i64 a.2.1)))]) (fun a => [(9000, .box [.t (.sl (a.2.2.1.map rB)), .t (.sc (.int .i64 a.2.2.2.1))]), (12009, .arr (a.2.2.2.2.map Form.row) 27 true)]) (fun a => a.1 ≤ fu ∧ zcb a.1 v1 a.2.1 a.2.2.1 a.2.2.2.1 a.2.2.2.2 = some r ∧ 0 ≤ a.2.1) (fu, 0, o1.b, o1.p, v1.kids) ⟨Nat.le_refl _, F2, by simp⟩ ?_
 clear F2
 rintro ⟨fu, g16, g17, g18, g19⟩ ⟨hl20, F3, hn_g16⟩
 dsimp only at hl20 F3 hn_g16 ⊢
 obtain _ | fu := fu
 · rw [zcb] at F3; cases F3
 rw [zcb] at F3
 refine zb (zb (za ?_))
 refine s_mv ?_
 refine s_fa zR ?_
 refine zv yA25 ?_
 refine zgq yU25 ?_
 refine s_lt ?_
 refine zf (zd ?_)
 refine zo F3 ?_ ?_ <;> intro C21 F4
 refine awp_lenA 33 12009 (fun B22 => ?_)
 refine zi (zd (zb (zl ?_)))
 refine zW yMix (by kernel_rfl) ?_
 refine s_fa zR ?_
 refine zv yA25 ?_
 refine s_mv ?_
 refine zfK ?_
 refine s_fa zR ?_
 refine zv yA25 ?_
 refine s_mv ?_
 obtain ⟨v23, V23, F5⟩ := zc F4
 refine s_ixA Form.row V23 yE25 ?_
 refine s_lAN Form.row V23 (Form.row_eq _) yA27 yS27 ?_
 obtain ⟨v24, V24, F6⟩ := zc F5
 refine zN [(9000, 9000)] [] _ _ (ih_m_spec_l1Dress fu (by omega) _ _ _ V24) ?_
 obtain ⟨v25, V25, F7⟩ := zc F6
 refine s_ixA Form.row V25 yE25 ?_
 refine s_stA Form.row v24.1 V25 (Form.row_eq _) (Form.row_eq _) yS27 yS27 ?_
 refine zaA (by kernel_rfl) ?_
 refine zX (zd (za ?_))
 refine s_mv ?_
 refine zQ (zbg C21 B22 hn_g16) ?_
 refine s_as ?_
 refine zf ?_
 exact s_rn (fu, (g16 + 1), v24.2.b, v24.2.p, (g19.set g16.toNat v24.1)) ⟨by first | omega | (dsimp only; omega), F7, by first | omega | (dsimp only; omega)⟩
 refine zC (zr (zq (zu (zd (zb (za ?_))))))
 refine zI yA27 yS27 ?_
 refine zap yS27 ?_
 refine zf (zd (zh (zm ?_)))
 cases F4
 exact zag _ [2009, 12009] (by rw [Tryz.results47]; exact (zal (by conv => lhs; whnf) (by conv => lhs; whnf) yA27 yS27 rfl zaq))
theorem m_spec_l1Dress_all (fuel : Nat) : zeI fuel := by
 induction fuel using Nat.strongRecOn with
 | _ N ih =>
   cases N with
   | zero => exact (by intro o1 x2 r h; rw [zbF] at h; cases h)
   | succ fu => exact m_spec_l1Dress_st fu (fun k hk => (ih k (by omega)))
theorem m_spec_l1Dress_ok (fuel : Nat) : zeI fuel := (m_spec_l1Dress_all fuel)
def m_spec_l4Case_AC (fuel : Nat) : Prop := ∀ (x1 : (List Int)) (r : (Form × (List Form) × Form)), zfs fuel x1 = some r → AC Tryz.prog 15 [.t (.sl (x1.map rB))] (objs []) (.tp [.ag [.t (.sc (.int .i64 r.1.kind)), .t (.sc (.str r.1.name)), .t (.sc (.int .i64 r.1.n)), .t (.sl (r.1.scopes.map rI)), .t (.sl (r.1.kids.map Form.row))], .ar 9300, .ag [.t (.sc (.int .i64 r.2.2.kind)), .t (.sc (.str r.2.2.name)), .t (.sc (.int .i64 r.2.2.n)), .t (.sl (r.2.2.scopes.map rI)), .t (.sl (r.2.2.kids.map Form.row))]]) (objs [(9300, .arr (r.2.1.map Form.row) 27 true)])
theorem m_spec_l4Case_ok (fuel : Nat) : m_spec_l4Case_AC fuel := by
 intro x1 r F0
 unfold zfs at F0
 refine AC_i [.ag [.t (.sc (.int .i64 r.1.kind)), .t (.sc (.str r.1.name)), .t (.sc (.int .i64 r.1.n)), .t (.sl (r.1.scopes.map rI)), .t (.sl (r.1.kids.map Form.row))], .ar 9300, .ag [.t (.sc (.int .i64 r.2.2.kind)), .t (.sc (.str r.2.2.name)), .t (.sc (.int .i64 r.2.2.n)), .t (.sl (r.2.2.scopes.map rI)), .t (.sl (r.2.2.kids.map Form.row))]] Tryz.func15 rfl Tryz.ntmps15 ?_
 intro C hC
 refine zb (za ?_)
 refine zY yZ27 ?_
 refine s_as ?_
 refine zY yZ27 ?_
 refine zf (zd (zb (za ?_)))
 refine s_mv ?_
 obtain ⟨v1, V1, F1⟩ := zc F0
 refine zN [(10, 12)] [] _ _ (zgW fuel _ _ V1) ?_
 refine s_as ?_
 refine zf (zd (zb (za ?_)))
 obtain ⟨v2, V2, F2⟩ := zc F1
 refine zx [] (m_spec_l4Texts_ok fuel _ V2) ?_
 refine s_as ?_
 refine zf (zd (zb (za ?_)))
 refine s_mv ?_
 refine s_mv ?_
 refine zD yU67 ?_
 obtain ⟨v3, V3, F3⟩ := zc F2
 refine zN [(9000, 12)] [] _ _ (zar fuel _ _ _ V3) ?_
 refine s_as ?_
 refine zf (zd (zb (za ?_)))
 refine s_mv ?_
 refine s_mv ?_
 obtain ⟨v4, V4, F4⟩ := zc F3
 refine z7 (rL rS) V4 rfl yE67 ?_
 refine zv yA70 ?_
 obtain ⟨v5, V5, F5⟩ := zc F4
 refine z7 rS V5 rfl yE70 ?_
 refine zv yA9 ?_
 obtain ⟨v6, V6, F6⟩ := zc F5
 refine zx [] (zfS fuel _ _ V6) ?_
 refine zY yZ27 ?_
 refine zap yS27 ?_
 refine zf (zd (zb (za ?_)))
 refine s_mv ?_
 refine s_mv ?_
 obtain ⟨v7, V7, F7⟩ := zc F6
 refine z7 (rL rS) V7 rfl yE67 ?_
 refine zv yA70 ?_
 obtain ⟨v8, V8, F8⟩ := zc F7
 refine z7 rS V8 rfl yE70 ?_
 refine zv yA9 ?_
 obtain ⟨v9, V9, F9⟩ := zc F8
 refine zx [] (zfS fuel _ _ V9) ?_
 refine zY yZ27 ?_
 refine zap yS27 ?_
 refine zf (zd (zb (za ?_)))
 obtain ⟨v10, V10, F10⟩ := zc F9
 refine zx [] (m_spec_l1Name_ok fuel _ _ V10) ?_
 refine s_bs Form.row [v10] yP25 yR27 ?_
 refine s_as ?_
 refine zf (zd (zb (zb (za ?_))))
 refine s_mv ?_
 obtain ⟨v11, V11, F11⟩ := zc F10
 refine zN [(9000, 12)] [] _ _ (zar fuel _ _ _ V11) ?_
 refine zf (zd (zl (zb (za ?_))))
 refine s_eq ?_
 refine s_as ?_
 refine zf (zd ?_)
 refine zo F11 ?_ ?_ <;> intro C12 F12
 refine za ?_
 refine s_mv ?_
 refine s_mv ?_
 refine zI yA27 yS27 ?_
 obtain ⟨v13, V13, F13⟩ := zc F12
 refine zN [(9000, 12)] [] _ _ (zef fuel _ _ _ V13) ?_
 obtain ⟨v14, V14, F14⟩ := zc F13
 refine zN [(9000, 12)] [] _ _ (zef fuel _ _ _ V14) ?_
 refine zap yS27 ?_
 refine zf (zX (zd (zb ?_)))
 refine zW yMix (by kernel_rfl) ?_
 refine zI yA27 yS27 ?_
 refine zfK ?_
 refine zI yA27 yS27 ?_
 refine zap yS27 ?_
 refine s_as ?_
 refine zap yS27 ?_
 refine zaA (by kernel_rfl) ?_
 refine zd ?_
 refine zcy 3 33 9300 (by conv => lhs; whnf) (by conv => lhs; whnf) rfl ?_
 refine zh (zm ?_)
 cases F14
 exact zag _ [] (by rw [Tryz.results15]; exact (zal (by conv => lhs; whnf) (by conv => lhs; whnf) yA27 yS27 rfl (zaU (by conv => lhs; whnf) (zal (by conv => lhs; whnf) (by conv => lhs; whnf) yA27 yS27 rfl zaq))))
 refine zb (za ?_)
 refine s_eq ?_
 refine s_as ?_
 refine zf (zd ?_)
 refine zo F12 ?_ ?_ <;> intro C15 F13
 refine za ?_
 refine s_mv ?_
 refine s_mv ?_
 refine zI yA27 yS27 ?_
 obtain ⟨v16, V16, F14⟩ := zc F13
 refine zN [(9000, 12)] [] _ _ (zef fuel _ _ _ V16) ?_
 obtain ⟨v17, V17, F15⟩ := zc F14
 refine zN [(9000, 12)] [] _ _ (zef fuel _ _ _ V17) ?_
 refine zap yS27 ?_
 refine zf (zX (zd (zb ?_)))
 refine zW yMix (by kernel_rfl) ?_
 refine zI yA27 yS27 ?_
 refine zfK ?_
 refine zI yA27 yS27 ?_
 refine zap yS27 ?_
 refine s_as ?_
 refine zap yS27 ?_
 refine zaA (by kernel_rfl) ?_
 refine zd ?_
 refine zcy 3 33 9300 (by conv => lhs; whnf) (by conv => lhs; whnf) rfl ?_
 refine zh (zm ?_)
 cases F15
 exact zag _ [] (by rw [Tryz.results15]; exact (zal (by conv => lhs; whnf) (by conv => lhs; whnf) yA27 yS27 rfl (zaU (by conv => lhs; whnf) (zal (by conv => lhs; whnf) (by conv => lhs; whnf) yA27 yS27 rfl zaq))))
 refine zb (za ?_)
 refine s_eq ?_
 refine s_as ?_
 refine zf (zd ?_)
 refine zo F13 ?_ ?_ <;> intro C18 F14
 refine za ?_
 refine s_mv ?_
 refine zI yA27 yS27 ?_
 obtain ⟨v19, V19, F15⟩ := zc F14
 refine zN [(9000, 12)] [] _ _ (m_spec_l1Dress_ok fuel _ _ _ V19) ?_
 refine zap yS27 ?_
 refine zf (zX (zd (zb ?_)))
 refine zW yMix (by kernel_rfl) ?_
 refine zI yA27 yS27 ?_
 refine zfK ?_
 refine zI yA27 yS27 ?_
 refine zap yS27 ?_
 refine s_as ?_
 refine zap yS27 ?_
 refine zaA (by kernel_rfl) ?_
 refine zd ?_
 refine zcy 3 33 9300 (by conv => lhs; whnf) (by conv => lhs; whnf) rfl ?_
 refine zh (zm ?_)
 cases F15
 exact zag _ [] (by rw [Tryz.results15]; exact (zal (by conv => lhs; whnf) (by conv => lhs; whnf) yA27 yS27 rfl (zaU (by conv => lhs; whnf) (zal (by conv => lhs; whnf) (by conv => lhs; whnf) yA27 yS27 rfl zaq))))
 refine zb (za ?_)
 refine s_eq ?_
 refine s_as ?_
 refine zf (zd ?_)
 refine zo F14 ?_ ?_ <;> intro C20 F15
 refine za ?_
 refine s_bs Form.row ([] : List Form) yP25 yR27 ?_
 refine s_as ?_
 refine zf (zX (zd (zb ?_)))
 refine zW yMix (by kernel_rfl) ?_
 refine zI yA27 yS27 ?_
 refine zfK ?_
 refine zI yA27 yS27 ?_
 refine zap yS27 ?_
 refine s_as ?_
 refine zap yS27 ?_
 refine zaA (by kernel_rfl) ?_
 refine zd ?_
 refine zcy 3 57 9300 (by conv => lhs; whnf) (by conv => lhs; whnf) rfl ?_
 refine zh (zm ?_)
 cases F15
 exact zag _ [] (by rw [Tryz.results15]; exact (zal (by conv => lhs; whnf) (by conv => lhs; whnf) yA27 yS27 rfl (zaU (by conv => lhs; whnf) (zal (by conv => lhs; whnf) (by conv => lhs; whnf) yA27 yS27 rfl zaq))))
 refine zb (za ?_)
 refine s_eq ?_
 refine s_as ?_
 refine zf (zd ?_)
 refine zo F15 ?_ ?_ <;> intro C21 F16
 refine za ?_
 iterate 3 refine s_mv ?_
 refine zD yU67 ?_
 obtain ⟨v22, V22, F17⟩ := zc F16
 refine zN [(9000, 12)] [] _ _ (zar fuel _ _ _ V22) ?_
 obtain ⟨v23, V23, F18⟩ := zc F17
 refine z7 (rL rS) V23 rfl yE67 ?_
 refine zv yA70 ?_
 obtain ⟨v24, V24, F19⟩ := zc F18
 refine z7 rS V24 rfl yE70 ?_
 refine zv yA9 ?_
 obtain ⟨v25, V25, F20⟩ := zc F19
 refine zx [] (zfS fuel _ _ V25) ?_
 refine zap yS27 ?_
 refine zf (zX (zd (zb ?_)))
 refine zW yMix (by kernel_rfl) ?_
 refine zI yA27 yS27 ?_
 refine zfK ?_
 refine zI yA27 yS27 ?_
 refine zap yS27 ?_
 refine s_as ?_
 refine zap yS27 ?_
 refine zaA (by kernel_rfl) ?_
 refine zd ?_
 refine zcy 3 33 9300 (by conv => lhs; whnf) (by conv => lhs; whnf) rfl ?_
 refine zh (zm ?_)
 cases F20
 exact zag _ [] (by rw [Tryz.results15]; exact (zal (by conv => lhs; whnf) (by conv => lhs; whnf) yA27 yS27 rfl (zaU (by conv => lhs; whnf) (zal (by conv => lhs; whnf) (by conv => lhs; whnf) yA27 yS27 rfl zaq))))
 refine zi (zX (zd (zb ?_)))
 refine zW yMix (by kernel_rfl) ?_
 refine zI yA27 yS27 ?_
 refine zfK ?_
 refine zI yA27 yS27 ?_
 refine zap yS27 ?_
 refine s_as ?_
 refine zap yS27 ?_
 refine zaA (by kernel_rfl) ?_
 refine zd ?_
 refine zcy 3 33 9300 (by conv => lhs; whnf) (by conv => lhs; whnf) rfl ?_
 refine zh (zm ?_)
 cases F16
 exact zag _ [] (by rw [Tryz.results15]; exact (zal (by conv => lhs; whnf) (by conv => lhs; whnf) yA27 yS27 rfl (zaU (by conv => lhs; whnf) (zal (by conv => lhs; whnf) (by conv => lhs; whnf) yA27 yS27 rfl zaq))))
def zgB (fuel : Nat) : Prop := ∀ (x1 : (List Int)) (r : ((List Bind) × Form × (List Form) × Form)), zbS fuel x1 = some r → AC Tryz.prog 5 [.t (.sl (x1.map rB))] noOb (.tp [.t (.sl (r.1.map Bind.row)), .ag [.t (.sc (.int .i64 r.2.1.kind)), .t (.sc (.str r.2.1.name)), .t (.sc (.int .i64 r.2.1.n)), .t (.sl (r.2.1.scopes.map rI)), .t (.sl (r.2.1.kids.map Form.row))], .t (.sl (r.2.2.1.map Form.row)), .ag [.t (.sc (.int .i64 r.2.2.2.kind)), .t (.sc (.str r.2.2.2.name)), .t (.sc (.int .i64 r.2.2.2.n)), .t (.sl (r.2.2.2.scopes.map rI)), .t (.sl (r.2.2.2.kids.map Form.row))]]) noOb
theorem zgA (fuel : Nat) : zgB fuel := by
 intro x1 r F0
 unfold zbS at F0
 refine AC_i [.t (.sl (r.1.map Bind.row)), .ag [.t (.sc (.int .i64 r.2.1.kind)), .t (.sc (.str r.2.1.name)), .t (.sc (.int .i64 r.2.1.n)), .t (.sl (r.2.1.scopes.map rI)), .t (.sl (r.2.1.kids.map Form.row))], .t (.sl (r.2.2.1.map Form.row)), .ag [.t (.sc (.int .i64 r.2.2.2.kind)), .t (.sc (.str r.2.2.2.name)), .t (.sc (.int .i64 r.2.2.2.n)), .t (.sl (r.2.2.2.scopes.map rI)), .t (.sl (r.2.2.2.kids.map Form.row))]] Tryz.func5 rfl Tryz.ntmps5 ?_
 intro C hC
 refine zb (za ?_)
 refine s_as ?_
 refine zY yZ27 ?_
 refine s_as ?_
 refine zY yZ27 ?_
 refine zf (zd (zb (za ?_)))
 refine s_mv ?_
 obtain ⟨v1, V1, F1⟩ := zc F0
 refine zN [(9300, 2013)] [] _ _ (m_spec_l4Case_ok fuel _ _ V1) ?_
 refine s_mv ?_
 iterate 3 refine zbP ?_
 refine zY yZ27 ?_
 refine zY yZ27 ?_
 refine zap yS27 ?_
 refine s_as ?_
 refine zap yS27 ?_
 refine zf (zd (zb (za ?_)))
 refine s_mv ?_
 obtain ⟨v2, V2, F2⟩ := zc F1
 refine zN [(10, 18)] [] _ _ (zgW fuel _ _ V2) ?_
 refine s_as ?_
 refine zf (zd (zb (za ?_)))
 refine s_bs Bind.row ([] : List Bind) yP23 yR50 ?_
 refine s_as ?_
 refine zf (zd (zb (zb (za ?_))))
 refine s_mv ?_
 obtain ⟨v3, V3, F3⟩ := zc F2
 refine zN [(9000, 18)] [] _ _ (zar fuel _ _ _ V3) ?_
 refine s_eq ?_
 refine zf (zd ?_)
 refine zo F3 ?_ ?_ <;> intro C4 F4
 refine za ?_
 refine s_bs rI [1] yP24 yR3 ?_
 refine zgz yZ50 yL50 ?_
 refine s_bs Bind.row [(Bind.mk (⟨#[101, 108, 115, 101]⟩ : ByteArray) [1] 3)] yP23 yR50 ?_
 refine s_as ?_
 refine zf (zd (zb ?_))
 refine zW yMix (by kernel_rfl) ?_
 refine zfK ?_
 refine zI yA27 yS27 ?_
 refine zfK ?_
 refine zI yA27 yS27 ?_
 refine s_as ?_
 refine zap yS27 ?_
 refine s_as ?_
 refine zap yS27 ?_
 refine zaA (by kernel_rfl) ?_
 refine zd (zh (zm ?_))
 cases F4
 exact zag [] [25, 2013] (by rw [Tryz.results5]; exact (zaU (by conv => lhs; whnf) (zal (by conv => lhs; whnf) (by conv => lhs; whnf) yA27 yS27 rfl (zaU (by conv => lhs; whnf) (zal (by conv => lhs; whnf) (by conv => lhs; whnf) yA27 yS27 rfl zaq)))))
 refine zi (zd (zb ?_))
 refine zW yMix (by kernel_rfl) ?_
 refine zfK ?_
 refine zI yA27 yS27 ?_
 refine zfK ?_
 refine zI yA27 yS27 ?_
 refine s_as ?_
 refine zap yS27 ?_
 refine s_as ?_
 refine zap yS27 ?_
 refine zaA (by kernel_rfl) ?_
 refine zd (zh (zm ?_))
 cases F4
 exact zag [] [19, 2013] (by rw [Tryz.results5]; exact (zaU (by conv => lhs; whnf) (zal (by conv => lhs; whnf) (by conv => lhs; whnf) yA27 yS27 rfl (zaU (by conv => lhs; whnf) (zal (by conv => lhs; whnf) (by conv => lhs; whnf) yA27 yS27 rfl zaq)))))
def m_strings_IndexByte_AC (fuel : Nat) : Prop := ∀ (x1 : ByteArray) (x2 : Int) (r : Int), zdH fuel x1 x2 = some r → AC Tryz.prog 106 [.t (.sc (.str x1)), .t (.sc (.int .u8 x2))] noOb (.t (.sc (.int .i64 r))) noOb
theorem zfL (fuel : Nat) : m_strings_IndexByte_AC fuel := by
 intro x1 x2 r h
 obtain rfl := Option.some.inj h
 exact ac_two (a := .str x1) (b := .int .u8 x2) (r := .int .i64 _) ⟨_, Tryz.func106, by kernel_rfl, by kernel_rfl⟩ (fun w => Tryz.strings_IndexByte x1 x2 w)
def m_impl_within_AC (fuel : Nat) : Prop := ∀ (x1 : Int) (x2 : Int) (x3 : Int) (r : Bool), zco fuel x1 x2 x3 = some r → AC Tryz.prog 50 [.t (.sc (.int .i64 x1)), .t (.sc (.int .i64 x2)), .t (.sc (.int .i64 x3))] noOb (.t (.sc (.bool r))) noOb
theorem zdb (fuel : Nat) : m_impl_within_AC fuel := by
 intro x1 x2 x3 r F0
 unfold zco at F0
 refine AC_i [.t (.sc (.bool r))] Tryz.func50 rfl Tryz.ntmps50 ?_
 intro C hC
 refine zb (za ?_)
 refine s_as ?_
 refine zf (zd (zb (za ?_)))
 refine s_mv ?_
 refine s_mv ?_
 refine s_ge ?_
 refine s_mv ?_
 refine zp _ 10 F0 ?_ ?_ <;> intro C1 F1
 refine s_mv ?_
 refine s_mv ?_
 refine s_le ?_
 refine zz ?_
 refine s_as ?_
 refine zf (zd (zh (zm ?_)))
 cases F1
 exact zk [] [] Tryz.results50
 iterate 3 refine r_no rfl ?_
 refine zy ?_
 refine s_as ?_
 refine zf (zd (zh (zm ?_)))
 cases F1
 exact zk [] [] Tryz.results50
def m_impl_NameValid_AC (fuel : Nat) : Prop := ∀ (x1 : ByteArray) (r : Bool), zdc fuel x1 = some r → AC Tryz.prog 48 [.t (.sc (.str x1))] noOb (.t (.sc (.bool r))) noOb
theorem zgu (fuel : Nat) : m_impl_NameValid_AC fuel := by
 intro x1 r F0
 unfold zdc at F0
 refine AC_i [.t (.sc (.bool r))] Tryz.func48 rfl Tryz.ntmps48 ?_
 intro C hC
 refine zb (za ?_)
 refine s_as ?_
 refine zf (zd (zb (zb (za ?_))))
 refine s_mv ?_
 refine zf1 ?_
 refine s_mv ?_
 refine zp _ 7 F0 ?_ ?_ <;> intro C1 F1
 refine r_no rfl (r_no rfl ?_)
 refine zz ?_
 refine zf (zd (zM rfl (zb (za ?_))))
 refine s_as ?_
 refine zf (zd (zh (zg (zm ?_))))
 cases F1
 exact zk [] [] Tryz.results48
 refine s_mv ?_
 refine zf1 ?_
 refine zy ?_
 refine zf (zd ?_)
 refine zo F1 ?_ ?_ <;> intro C2 F2
 refine zb (za ?_)
 refine s_as ?_
 refine zf (zd (zh (zg (zm ?_))))
 cases F2
 exact zk [] [] Tryz.results48
 refine zi (zd (zb (zb (za ?_))))
 refine s_as ?_
 refine zf (zd (zl ?_))
 refine zbu (β := Int) [2, 3, 4, 11, 12, 13, 14, 15, 16, 17, 18, 19, 20, 21, 22, 23, 24, 25, 26, 27, 28, 29, 30, 31, 32, 33, 34, 35, 36, 37, 38, 39, 40, 41, 42, 43, 44, 45, 46] [] [] (fun a => [(3, .t (.sc (.int .i64 a.2)))]) (fun a => []) (fun a => a.1 ≤ fuel ∧ zO a.1 x1 a.2 = some r) (fuel, 0) ⟨Nat.le_refl _, F2⟩ ?_
 clear F2
 rintro ⟨fu, g3⟩ ⟨hl4, F3⟩
 dsimp only at hl4 F3 ⊢
 obtain _ | fu := fu
 · rw [zO] at F3; cases F3
 rw [zO] at F3
 refine zb (zb (za ?_))
 refine s_mv ?_
 refine s_mv ?_
 refine zen yU9 ?_
 refine s_lt ?_
 refine zf (zd ?_)
 refine zo F3 ?_ ?_ <;> intro C5 F4
 refine zi (zd (zb (zl (zb (za ?_)))))
 refine s_mv ?_
 refine s_mv ?_
 obtain ⟨v6, V6, F5⟩ := zc F4
 refine s_ixS V6 yU9 ?_
 refine s_as ?_
 refine zf (zd (zl (zb (za ?_))))
 refine s_mv ?_
 refine s_ge ?_
 refine s_mv ?_
 refine zp _ 23 F5 ?_ ?_ <;> intro C7 F6
 refine s_mv ?_
 refine s_le ?_
 refine zz ?_
 refine s_mv ?_
 refine zp _ 27 F6 ?_ ?_ <;> intro C8 F7
 iterate 3 refine r_no rfl ?_
 refine zz ?_
 refine s_as ?_
 refine zf (zd (zM rfl (zi (zX (zX (zd (za ?_)))))))
 refine s_mv ?_
 refine zQ rfl ?_
 refine s_as ?_
 refine zf ?_
 exact s_rn (fu, (w64 (g3 + 1))) ⟨by first | omega | (dsimp only; omega), F7⟩
 refine s_mv ?_
 obtain ⟨v9, V9, F8⟩ := zc F7
 refine zx [] (zfL fu _ _ _ V9) ?_
 refine s_ge ?_
 refine zy ?_
 refine s_as ?_
 refine zf (zd ?_)
 refine zo F8 ?_ ?_ <;> intro C10 F9
 refine zi (zX (zX (zd (za ?_))))
 refine s_mv ?_
 refine zQ rfl ?_
 refine s_as ?_
 refine zf ?_
 exact s_rn (fu, (w64 (g3 + 1))) ⟨by first | omega | (dsimp only; omega), F9⟩
 refine zb (za ?_)
 refine s_mv ?_
 refine s_gt ?_
 refine s_mv ?_
 refine zp _ 35 F9 ?_ ?_ <;> intro C11 F10
 refine s_mv ?_
 refine s_ge ?_
 refine s_mv ?_
 refine zp _ 38 F10 ?_ ?_ <;> intro C12 F11
 refine s_mv ?_
 refine s_le ?_
 refine zz ?_
 refine s_mv ?_
 refine zp _ 42 F11 ?_ ?_ <;> intro C13 F12
 refine r_no rfl (r_no rfl ?_)
 refine zz ?_
 refine zz ?_
 refine s_as ?_
 refine zf (zd (zM rfl (zi (zX (zX (zd (za ?_)))))))
 refine s_mv ?_
 refine zQ rfl ?_
 refine s_as ?_
 refine zf ?_
 exact s_rn (fu, (w64 (g3 + 1))) ⟨by first | omega | (dsimp only; omega), F12⟩
 refine s_mv ?_
 refine s_eq ?_
 refine zy ?_
 refine zz ?_
 refine s_as ?_
 refine zf (zd ?_)
 refine zo F12 ?_ ?_ <;> intro C14 F13
 refine zi (zX (zX (zd (za ?_))))
 refine s_mv ?_
 refine zQ rfl ?_
 refine s_as ?_
 refine zf ?_
 exact s_rn (fu, (w64 (g3 + 1))) ⟨by first | omega | (dsimp only; omega), F13⟩
 refine zb (za ?_)
 refine s_as ?_
 refine zf (zd (zh (zj (zj (zg (zw (zj (zg (zm ?_)))))))))
 cases F13
 exact zk [] [] Tryz.results48
 refine r_no rfl (r_no rfl ?_)
 refine zy ?_
 refine s_mv ?_
 refine s_mv ?_
 refine s_eq ?_
 refine zy ?_
 refine zz ?_
 refine s_as ?_
 refine zf (zd ?_)
 refine zo F11 ?_ ?_ <;> intro C15 F12
 refine zi (zX (zX (zd (za ?_))))
 refine s_mv ?_
 refine zQ rfl ?_
 refine s_as ?_
 refine zf ?_
 exact s_rn (fu, (w64 (g3 + 1))) ⟨by first | omega | (dsimp only; omega), F12⟩
 refine zb (za ?_)
 refine s_as ?_
 refine zf (zd (zh (zj (zj (zg (zw (zj (zg (zm ?_)))))))))
 cases F12
 exact zk [] [] Tryz.results48
 iterate 10 refine r_no rfl ?_
 refine zy ?_
 refine s_as ?_
 refine zf (zd (zbn rfl (zb (za ?_))))
 refine s_as ?_
 refine zf (zd (zh (zj (zj (zg (zw (zj (zg (zm ?_)))))))))
 cases F10
 exact zk [] [] Tryz.results48
 refine r_no rfl (r_no rfl ?_)
 refine zy ?_
 refine s_mv ?_
 refine s_mv ?_
 obtain ⟨v16, V16, F7⟩ := zc F6
 refine zx [] (zfL fu _ _ _ V16) ?_
 refine s_ge ?_
 refine zy ?_
 refine s_as ?_
 refine zf (zd ?_)
 refine zo F7 ?_ ?_ <;> intro C17 F8
 refine zi (zX (zX (zd (za ?_))))
 refine s_mv ?_
 refine zQ rfl ?_
 refine s_as ?_
 refine zf ?_
 exact s_rn (fu, (w64 (g3 + 1))) ⟨by first | omega | (dsimp only; omega), F8⟩
 refine zb (za ?_)
 refine s_mv ?_
 refine s_gt ?_
 refine s_mv ?_
 refine zp _ 35 F8 ?_ ?_ <;> intro C18 F9
 refine s_mv ?_
 refine s_ge ?_
 refine s_mv ?_
 refine zp _ 38 F9 ?_ ?_ <;> intro C19 F10
 refine s_mv ?_
 refine s_le ?_
 refine zz ?_
 refine s_mv ?_
 refine zp _ 42 F10 ?_ ?_ <;> intro C20 F11
 refine r_no rfl (r_no rfl ?_)
 refine zz ?_
 refine zz ?_
 refine s_as ?_
 refine zf (zd (zM rfl (zi (zX (zX (zd (za ?_)))))))
 refine s_mv ?_
 refine zQ rfl ?_
 refine s_as ?_
 refine zf ?_
 exact s_rn (fu, (w64 (g3 + 1))) ⟨by first | omega | (dsimp only; omega), F11⟩
 refine s_mv ?_
 refine s_eq ?_
 refine zy ?_
 refine zz ?_
 refine s_as ?_
 refine zf (zd ?_)
 refine zo F11 ?_ ?_ <;> intro C21 F12
 refine zi (zX (zX (zd (za ?_))))
 refine s_mv ?_
 refine zQ rfl ?_
 refine s_as ?_
 refine zf ?_
 exact s_rn (fu, (w64 (g3 + 1))) ⟨by first | omega | (dsimp only; omega), F12⟩
 refine zb (za ?_)
 refine s_as ?_
 refine zf (zd (zh (zj (zj (zg (zw (zj (zg (zm ?_)))))))))
 cases F12
 exact zk [] [] Tryz.results48
 refine r_no rfl (r_no rfl ?_)
 refine zy ?_
 refine s_mv ?_
 refine s_mv ?_
 refine s_eq ?_
 refine zy ?_
 refine zz ?_
 refine s_as ?_
 refine zf (zd ?_)
 refine zo F10 ?_ ?_ <;> intro C22 F11
 refine zi (zX (zX (zd (za ?_))))
 refine s_mv ?_
 refine zQ rfl ?_
 refine s_as ?_
 refine zf ?_
 exact s_rn (fu, (w64 (g3 + 1))) ⟨by first | omega | (dsimp only; omega), F11⟩
 refine zb (za ?_)
 refine s_as ?_
 refine zf (zd (zh (zj (zj (zg (zw (zj (zg (zm ?_)))))))))
 cases F11
 exact zk [] [] Tryz.results48
 iterate 10 refine r_no rfl ?_
 refine zy ?_
 refine s_as ?_
 refine zf (zd (zbn rfl (zb (za ?_))))
 refine s_as ?_
 refine zf (zd (zh (zj (zj (zg (zw (zj (zg (zm ?_)))))))))
 cases F9
 exact zk [] [] Tryz.results48
 refine zC (zr (zq (zu (zd (zb (za ?_))))))
 refine s_mv ?_
 refine zen yU9 ?_
 obtain ⟨v23, V23, F5⟩ := zc F4
 refine zx [] (zdb fu _ _ _ _ V23) ?_
 refine s_as ?_
 refine zf (zd (zh (zm ?_)))
 cases F5
 exact zk [] [] Tryz.results48
end Go.Abs
