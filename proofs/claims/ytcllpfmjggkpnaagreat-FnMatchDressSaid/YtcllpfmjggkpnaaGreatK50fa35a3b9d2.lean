/- A part of the proof: what the functions that the law calls answer, as pure values. -/
import Derived.Test.YtcllpfmjggkpnaaGreatK73f09199af94
import Derived.Test.YtcllpfmjggkpnaaGreatKa15390ddf9b4
import Derived.Test.YtcllpfmjggkpnaaGreatK0c150a8b573b
import Derived.Test.YtcllpfmjggkpnaaGreatK98a493ba4651
set_option linter.unusedSimpArgs false
set_option linter.unusedVariables false
set_option maxRecDepth 100000
set_option maxHeartbeats 4000000
namespace Go.Abs
open Go.Proofs
theorem m_spec_l1Read_all (fuel : Nat) : ze5 fuel := by
 induction fuel using Nat.strongRecOn with
 | _ N ih =>
   cases N with
   | zero => exact (by intro x1 x2 x3 r h; rw [zfu] at h; cases h)
   | succ fu => exact m_spec_l1Read_st fu (fun k hk => (ih k (by omega)))
theorem m_spec_l1Read_ok (fuel : Nat) : ze5 fuel := (m_spec_l1Read_all fuel)
def m_spec_l1Letter_AC (fuel : Nat) : Prop := ∀ (x1 : Int) (x2 : Bool) (r : Bool), zeq fuel x1 x2 = some r → AC Tryz.prog 115 [.t (.sc (.int .u8 x1)), .t (.sc (.bool x2))] noOb (.t (.sc (.bool r))) noOb
theorem m_spec_l1Letter_ok (fuel : Nat) : m_spec_l1Letter_AC fuel := by
 intro x1 x2 r F0
 unfold zeq at F0
 refine AC_i [.t (.sc (.bool r))] Tryz.func115 rfl Tryz.ntmps115 ?_
 intro C hC
 refine zb (za ?_)
 refine s_as ?_
 refine zf (zd (zb (zb (za ?_))))
 refine s_mv ?_
 refine s_ge ?_
 refine s_mv ?_
 refine zp _ 7 F0 ?_ ?_ <;> intro C1 F1
 refine s_mv ?_
 refine s_le ?_
 refine zz ?_
 refine s_mv ?_
 refine zp _ 11 F1 ?_ ?_ <;> intro C2 F2
 refine r_no rfl (r_no rfl ?_)
 refine zz ?_
 refine s_mv ?_
 refine r_no rfl (r_no rfl ?_)
 refine zz ?_
 refine s_mv ?_
 refine r_no rfl (r_no rfl ?_)
 refine zz ?_
 refine s_mv ?_
 refine r_no rfl (r_no rfl ?_)
 refine zz ?_
 refine s_mv ?_
 refine r_no rfl (r_no rfl ?_)
 refine zz ?_
 refine zf (zd (zM rfl (zb (za ?_))))
 refine s_as ?_
 refine zf (zd (zh (zg (zm ?_))))
 cases F2
 exact zk [] [] Tryz.results115
 refine s_mv ?_
 refine s_eq ?_
 refine zy ?_
 refine s_mv ?_
 refine zp _ 15 F2 ?_ ?_ <;> intro C3 F3
 refine r_no rfl (r_no rfl ?_)
 refine zz ?_
 refine s_mv ?_
 refine r_no rfl (r_no rfl ?_)
 refine zz ?_
 refine s_mv ?_
 refine r_no rfl (r_no rfl ?_)
 refine zz ?_
 refine s_mv ?_
 refine r_no rfl (r_no rfl ?_)
 refine zz ?_
 refine zf (zd (zM rfl (zb (za ?_))))
 refine s_as ?_
 refine zf (zd (zh (zg (zm ?_))))
 cases F3
 exact zk [] [] Tryz.results115
 refine s_mv ?_
 refine s_eq ?_
 refine zy ?_
 refine s_mv ?_
 refine zp _ 19 F3 ?_ ?_ <;> intro C4 F4
 refine r_no rfl (r_no rfl ?_)
 refine zz ?_
 refine s_mv ?_
 refine r_no rfl (r_no rfl ?_)
 refine zz ?_
 refine s_mv ?_
 refine r_no rfl (r_no rfl ?_)
 refine zz ?_
 refine zf (zd (zM rfl (zb (za ?_))))
 refine s_as ?_
 refine zf (zd (zh (zg (zm ?_))))
 cases F4
 exact zk [] [] Tryz.results115
 refine s_mv ?_
 refine s_eq ?_
 refine zy ?_
 refine s_mv ?_
 refine zp _ 23 F4 ?_ ?_ <;> intro C5 F5
 refine r_no rfl (r_no rfl ?_)
 refine zz ?_
 refine s_mv ?_
 refine r_no rfl (r_no rfl ?_)
 refine zz ?_
 refine zf (zd (zM rfl (zb (za ?_))))
 refine s_as ?_
 refine zf (zd (zh (zg (zm ?_))))
 cases F5
 exact zk [] [] Tryz.results115
 refine s_mv ?_
 refine s_eq ?_
 refine zy ?_
 refine s_mv ?_
 refine zp _ 27 F5 ?_ ?_ <;> intro C6 F6
 refine r_no rfl (r_no rfl ?_)
 refine zz ?_
 refine zf (zd (zM rfl (zb (za ?_))))
 refine s_as ?_
 refine zf (zd (zh (zg (zm ?_))))
 cases F6
 exact zk [] [] Tryz.results115
 refine s_mv ?_
 refine s_eq ?_
 refine zy ?_
 refine zf (zd ?_)
 refine zo F6 ?_ ?_ <;> intro C7 F7
 refine zb (za ?_)
 refine s_as ?_
 refine zf (zd (zh (zg (zm ?_))))
 cases F7
 exact zk [] [] Tryz.results115
 refine zi (zd (zb (za ?_)))
 refine s_mv ?_
 refine zby ?_
 refine s_mv ?_
 refine zp _ 33 F7 ?_ ?_ <;> intro C8 F8
 refine s_mv ?_
 refine s_ge ?_
 refine s_mv ?_
 refine zp _ 36 F8 ?_ ?_ <;> intro C9 F9
 refine s_mv ?_
 refine s_le ?_
 refine zz ?_
 refine s_mv ?_
 refine zp _ 40 F9 ?_ ?_ <;> intro C10 F10
 refine r_no rfl (r_no rfl ?_)
 refine zz ?_
 refine zz ?_
 refine s_as ?_
 refine zf (zd (zh (zm ?_)))
 cases F10
 exact zk [] [] Tryz.results115
 refine s_mv ?_
 refine s_eq ?_
 refine zy ?_
 refine zz ?_
 refine s_as ?_
 refine zf (zd (zh (zm ?_)))
 cases F10
 exact zk [] [] Tryz.results115
 refine r_no rfl (r_no rfl ?_)
 refine zy ?_
 refine s_mv ?_
 refine s_mv ?_
 refine s_eq ?_
 refine zy ?_
 refine zz ?_
 refine s_as ?_
 refine zf (zd (zh (zm ?_)))
 cases F9
 exact zk [] [] Tryz.results115
 iterate 10 refine r_no rfl ?_
 refine zy ?_
 refine s_as ?_
 refine zf (zd (zh (zm ?_)))
 cases F8
 exact zk [] [] Tryz.results115
 refine r_no rfl (r_no rfl ?_)
 refine zy ?_
 refine s_mv ?_
 refine s_mv ?_
 refine s_eq ?_
 refine zy ?_
 refine s_mv ?_
 refine zp _ 15 F1 ?_ ?_ <;> intro C11 F2
 refine r_no rfl (r_no rfl ?_)
 refine zz ?_
 refine s_mv ?_
 refine r_no rfl (r_no rfl ?_)
 refine zz ?_
 refine s_mv ?_
 refine r_no rfl (r_no rfl ?_)
 refine zz ?_
 refine s_mv ?_
 refine r_no rfl (r_no rfl ?_)
 refine zz ?_
 refine zf (zd (zM rfl (zb (za ?_))))
 refine s_as ?_
 refine zf (zd (zh (zg (zm ?_))))
 cases F2
 exact zk [] [] Tryz.results115
 refine s_mv ?_
 refine s_eq ?_
 refine zy ?_
 refine s_mv ?_
 refine zp _ 19 F2 ?_ ?_ <;> intro C12 F3
 refine r_no rfl (r_no rfl ?_)
 refine zz ?_
 refine s_mv ?_
 refine r_no rfl (r_no rfl ?_)
 refine zz ?_
 refine s_mv ?_
 refine r_no rfl (r_no rfl ?_)
 refine zz ?_
 refine zf (zd (zM rfl (zb (za ?_))))
 refine s_as ?_
 refine zf (zd (zh (zg (zm ?_))))
 cases F3
 exact zk [] [] Tryz.results115
 refine s_mv ?_
 refine s_eq ?_
 refine zy ?_
 refine s_mv ?_
 refine zp _ 23 F3 ?_ ?_ <;> intro C13 F4
 refine r_no rfl (r_no rfl ?_)
 refine zz ?_
 refine s_mv ?_
 refine r_no rfl (r_no rfl ?_)
 refine zz ?_
 refine zf (zd (zM rfl (zb (za ?_))))
 refine s_as ?_
 refine zf (zd (zh (zg (zm ?_))))
 cases F4
 exact zk [] [] Tryz.results115
 refine s_mv ?_
 refine s_eq ?_
 refine zy ?_
 refine s_mv ?_
 refine zp _ 27 F4 ?_ ?_ <;> intro C14 F5
 refine r_no rfl (r_no rfl ?_)
 refine zz ?_
 refine zf (zd (zM rfl (zb (za ?_))))
 refine s_as ?_
 refine zf (zd (zh (zg (zm ?_))))
 cases F5
 exact zk [] [] Tryz.results115
 refine s_mv ?_
 refine s_eq ?_
 refine zy ?_
 refine zf (zd ?_)
 refine zo F5 ?_ ?_ <;> intro C15 F6
 refine zb (za ?_)
 refine s_as ?_
 refine zf (zd (zh (zg (zm ?_))))
 cases F6
 exact zk [] [] Tryz.results115
 refine zi (zd (zb (za ?_)))
 refine s_mv ?_
 refine zby ?_
 refine s_mv ?_
 refine zp _ 33 F6 ?_ ?_ <;> intro C16 F7
 refine s_mv ?_
 refine s_ge ?_
 refine s_mv ?_
 refine zp _ 36 F7 ?_ ?_ <;> intro C17 F8
 refine s_mv ?_
 refine s_le ?_
 refine zz ?_
 refine s_mv ?_
 refine zp _ 40 F8 ?_ ?_ <;> intro C18 F9
 refine r_no rfl (r_no rfl ?_)
 refine zz ?_
 refine zz ?_
 refine s_as ?_
 refine zf (zd (zh (zm ?_)))
 cases F9
 exact zk [] [] Tryz.results115
 refine s_mv ?_
 refine s_eq ?_
 refine zy ?_
 refine zz ?_
 refine s_as ?_
 refine zf (zd (zh (zm ?_)))
 cases F9
 exact zk [] [] Tryz.results115
 refine r_no rfl (r_no rfl ?_)
 refine zy ?_
 refine s_mv ?_
 refine s_mv ?_
 refine s_eq ?_
 refine zy ?_
 refine zz ?_
 refine s_as ?_
 refine zf (zd (zh (zm ?_)))
 cases F8
 exact zk [] [] Tryz.results115
 iterate 10 refine r_no rfl ?_
 refine zy ?_
 refine s_as ?_
 refine zf (zd (zh (zm ?_)))
 cases F7
 exact zk [] [] Tryz.results115
def m_spec_NameValid_AC (fuel : Nat) : Prop := ∀ (x1 : ByteArray) (r : Bool), zda fuel x1 = some r → AC Tryz.prog 63 [.t (.sc (.str x1))] noOb (.t (.sc (.bool r))) noOb
theorem zgt (fuel : Nat) : m_spec_NameValid_AC fuel := by
 intro x1 r F0
 unfold zda at F0
 refine AC_i [.t (.sc (.bool r))] Tryz.func63 rfl Tryz.ntmps63 ?_
 intro C hC
 refine zb (za ?_)
 refine s_as ?_
 refine zf (zd (zb (zb (za ?_))))
 refine s_mv ?_
 refine zf1 ?_
 refine s_mv ?_
 refine zp _ 6 F0 ?_ ?_ <;> intro C1 F1
 refine r_no rfl (r_no rfl ?_)
 refine zz ?_
 refine zf (zd (zM rfl (zb (za ?_))))
 refine s_as ?_
 refine zf (zd (zh (zg (zm ?_))))
 cases F1
 exact zk [] [] Tryz.results63
 refine s_mv ?_
 refine zf1 ?_
 refine zy ?_
 refine zf (zd ?_)
 refine zo F1 ?_ ?_ <;> intro C2 F2
 refine zb (za ?_)
 refine s_as ?_
 refine zf (zd (zh (zg (zm ?_))))
 cases F2
 exact zk [] [] Tryz.results63
 refine zi (zd (zb (zb (za ?_))))
 refine s_as ?_
 refine zf (zd (zl ?_))
 refine zbu (β := Int) [2, 3, 10, 11, 12, 13, 14, 15, 16, 17, 18, 19, 20, 21, 22, 23, 24, 25, 26] [] [] (fun a => [(3, .t (.sc (.int .i64 a.2)))]) (fun a => []) (fun a => a.1 ≤ fuel ∧ zbo a.1 x1 a.2 = some r) (fuel, 0) ⟨Nat.le_refl _, F2⟩ ?_
 clear F2
 rintro ⟨fu, g3⟩ ⟨hl4, F3⟩
 dsimp only at hl4 F3 ⊢
 obtain _ | fu := fu
 · rw [zbo] at F3; cases F3
 rw [zbo] at F3
 refine zb (zb (za ?_))
 refine s_mv ?_
 refine s_mv ?_
 refine zen yU9 ?_
 refine s_lt ?_
 refine s_mv ?_
 refine zp _ 14 F3 ?_ ?_ <;> intro C5 F4
 refine s_mv ?_
 refine s_le ?_
 refine zz ?_
 refine zf (zd ?_)
 refine zo F4 ?_ ?_ <;> intro C6 F5
 refine zi (zd (zb (zl (zb (za ?_)))))
 refine s_mv ?_
 refine s_mv ?_
 obtain ⟨v7, V7, F6⟩ := zc F5
 refine s_ixS V7 yU9 ?_
 refine s_mv ?_
 refine s_eq ?_
 obtain ⟨v8, V8, F7⟩ := zc F6
 refine zx [] (m_spec_l1Letter_ok fu _ _ _ V8) ?_
 refine zby ?_
 refine zf (zd ?_)
 refine zo F7 ?_ ?_ <;> intro C9 F8
 refine zb (za ?_)
 refine s_as ?_
 refine zf (zd (zh (zj (zg (zw (zj (zg (zm ?_))))))))
 cases F8
 exact zk [] [] Tryz.results63
 refine zi (zX (zd (za ?_)))
 refine s_mv ?_
 refine zQ rfl ?_
 refine s_as ?_
 refine zf ?_
 exact s_rn (fu, (w64 (g3 + 1))) ⟨by first | omega | (dsimp only; omega), F8⟩
 refine zC (zr (zq (zu (zd (zb (za ?_))))))
 refine s_mv ?_
 refine zen yU9 ?_
 refine s_ge ?_
 refine s_mv ?_
 refine zp _ 30 F5 ?_ ?_ <;> intro C10 F6
 refine s_mv ?_
 refine zen yU9 ?_
 refine s_le ?_
 refine zz ?_
 refine s_as ?_
 refine zf (zd (zh (zm ?_)))
 cases F6
 exact zk [] [] Tryz.results63
 iterate 3 refine r_no rfl ?_
 refine zy ?_
 refine s_as ?_
 refine zf (zd (zh (zm ?_)))
 cases F6
 exact zk [] [] Tryz.results63
 refine r_no rfl (r_no rfl ?_)
 refine zy ?_
 refine zf (zd (zbn rfl (zC (zr (zq (zu (zd (zb (za ?_)))))))))
 refine s_mv ?_
 refine zen yU9 ?_
 refine s_ge ?_
 refine s_mv ?_
 refine zp _ 30 F4 ?_ ?_ <;> intro C11 F5
 refine s_mv ?_
 refine zen yU9 ?_
 refine s_le ?_
 refine zz ?_
 refine s_as ?_
 refine zf (zd (zh (zm ?_)))
 cases F5
 exact zk [] [] Tryz.results63
 iterate 3 refine r_no rfl ?_
 refine zy ?_
 refine s_as ?_
 refine zf (zd (zh (zm ?_)))
 cases F5
 exact zk [] [] Tryz.results63
def m_spec_l1Scopes_AC (fuel : Nat) : Prop := ∀ (x1 : (List Int)) (r : Bool), zds fuel x1 = some r → AC Tryz.prog 64 [.t (.sl (x1.map rI))] noOb (.t (.sc (.bool r))) noOb
theorem zgH (fuel : Nat) : m_spec_l1Scopes_AC fuel := by
 intro x1 r F0
 unfold zds at F0
 refine AC_i [.t (.sc (.bool r))] Tryz.func64 rfl Tryz.ntmps64 ?_
 intro C hC
 refine zb (za ?_)
 refine s_as ?_
 refine zf (zd (zb (zb (za ?_))))
 refine s_as ?_
 refine zf (zd (zl ?_))
 refine zbu (β := Int) [2, 3, 4, 5, 6, 7, 8, 9, 10, 11, 12, 13, 14, 15, 16, 17, 18, 19, 20, 21, 22, 23, 24, 25, 26, 27, 28, 29, 30, 31, 32, 33, 34, 35, 36, 37, 38, 39, 40, 41] [] [] (fun a => [(3, .t (.sc (.int .i64 a.2)))]) (fun a => []) (fun a => a.1 ≤ fuel ∧ zbi a.1 x1 a.2 = some r) (fuel, 0) ⟨Nat.le_refl _, F0⟩ ?_
 clear F0
 rintro ⟨fu, g1⟩ ⟨hl2, F1⟩
 dsimp only at hl2 F1 ⊢
 obtain _ | fu := fu
 · rw [zbi] at F1; cases F1
 rw [zbi] at F1
 refine zb (zb (za ?_))
 refine s_mv ?_
 refine s_mv ?_
 refine zD yU24 ?_
 refine s_lt ?_
 refine s_mv ?_
 refine zp _ 8 F1 ?_ ?_ <;> intro C3 F2
 refine s_mv ?_
 refine s_le ?_
 refine zz ?_
 refine zf (zd ?_)
 refine zo F2 ?_ ?_ <;> intro C4 F3
 refine zi (zd (zb (zl (zb ?_))))
 refine zW yMix (by kernel_rfl) ?_
 refine s_mv ?_
 refine s_mv ?_
 obtain ⟨v5, V5, F4⟩ := zc F3
 refine z7 rI V5 rfl yE24 ?_
 refine zv yA3 ?_
 refine s_lt ?_
 refine s_mv ?_
 refine zp _ 19 F4 ?_ ?_ <;> intro C6 F5
 iterate 5 refine r_no rfl ?_
 refine zz ?_
 refine s_mv ?_
 iterate 14 refine r_no rfl ?_
 refine zz ?_
 refine zaA (by kernel_rfl) ?_
 refine zd (zM rfl (zb (za ?_)))
 refine s_as ?_
 refine zf (zd (zh (zj (zg (zw (zj (zg (zm ?_))))))))
 cases F5
 exact zk [] [] Tryz.results64
 refine s_mv ?_
 refine s_mv ?_
 obtain ⟨v7, V7, F6⟩ := zc F5
 refine z7 rI V7 rfl yE24 ?_
 refine zv yA3 ?_
 refine s_gt ?_
 refine zy ?_
 refine s_mv ?_
 refine zp _ 26 F6 ?_ ?_ <;> intro C8 F7
 iterate 14 refine r_no rfl ?_
 refine zz ?_
 refine zaA (by kernel_rfl) ?_
 refine zd (zM rfl (zb (za ?_)))
 refine s_as ?_
 refine zf (zd (zh (zj (zg (zw (zj (zg (zm ?_))))))))
 cases F7
 exact zk [] [] Tryz.results64
 refine s_mv ?_
 refine s_gt ?_
 refine s_mv ?_
 refine zp _ 29 F7 ?_ ?_ <;> intro C9 F8
 refine s_mv ?_
 refine s_mv ?_
 obtain ⟨v10, V10, F9⟩ := zc F8
 refine z7 rI V10 rfl yE24 ?_
 refine zv yA3 ?_
 refine s_mv ?_
 refine s_mv ?_
 refine zgS rfl ?_
 obtain ⟨v11, V11, F10⟩ := zc F9
 refine z7 rI V11 rfl yE24 ?_
 refine zv yA3 ?_
 refine s_le ?_
 refine zz ?_
 refine zy ?_
 refine zaA (by kernel_rfl) ?_
 refine zd ?_
 refine zo F10 ?_ ?_ <;> intro C12 F11
 refine zb (za ?_)
 refine s_as ?_
 refine zf (zd (zh (zj (zg (zw (zj (zg (zm ?_))))))))
 cases F11
 exact zk [] [] Tryz.results64
 refine zi (zX (zd (za ?_)))
 refine s_mv ?_
 refine zQ rfl ?_
 refine s_as ?_
 refine zf ?_
 exact s_rn (fu, (w64 (g1 + 1))) ⟨by first | omega | (dsimp only; omega), F11⟩
 iterate 10 refine r_no rfl ?_
 refine zy ?_
 refine zy ?_
 refine zaA (by kernel_rfl) ?_
 refine zd (zbn rfl (zi (zX (zd (za ?_)))))
 refine s_mv ?_
 refine zQ rfl ?_
 refine s_as ?_
 refine zf ?_
 exact s_rn (fu, (w64 (g1 + 1))) ⟨by first | omega | (dsimp only; omega), F8⟩
 refine zC (zr (zq (zu (zd (zb (za ?_))))))
 refine s_mv ?_
 refine zD yU24 ?_
 refine s_le ?_
 refine s_as ?_
 refine zf (zd (zh (zm ?_)))
 cases F3
 exact zk [] [] Tryz.results64
 refine r_no rfl (r_no rfl ?_)
 refine zy ?_
 refine zf (zd (zbn rfl (zC (zr (zq (zu (zd (zb (za ?_)))))))))
 refine s_mv ?_
 refine zD yU24 ?_
 refine s_le ?_
 refine s_as ?_
 refine zf (zd (zh (zm ?_)))
 cases F2
 exact zk [] [] Tryz.results64
def zfZ (fuel : Nat) : Prop := ∀ (x1 : Form) (x2 : Int) (r : Bool), zer fuel x1 x2 = some r → AC Tryz.prog 71 [.ag [.t (.sc (.int .i64 x1.kind)), .t (.sc (.str x1.name)), .t (.sc (.int .i64 x1.n)), .t (.sl (x1.scopes.map rI)), .t (.sl (x1.kids.map Form.row))], .t (.sc (.int .i64 x2))] noOb (.t (.sc (.bool r))) noOb
theorem m_spec_l1Is_st (fu : Nat) (ih_m_spec_l1Is : ∀ k, k ≤ fu → zfZ k) : zfZ (fu + 1) := by
 intro x1 x2 r F0
 rw [zer] at F0
 refine AC_i [.t (.sc (.bool r))] Tryz.func71 rfl Tryz.ntmps71 ?_
 intro C hC
 refine zb (za ?_)
 refine zbz ?_
 refine s_as ?_
 refine zf (zd (zb (zb (za ?_))))
 refine s_mv ?_
 refine s_eq ?_
 refine zf (zd ?_)
 refine zo F0 ?_ ?_ <;> intro C1 F1
 refine zb (za ?_)
 refine s_as ?_
 refine zf (zd (zh (zg (zm ?_))))
 cases F1
 exact zk [] [] Tryz.results71
 refine zi (zd (zb (zb (za ?_))))
 refine s_fa zdF ?_
 refine zv yA3 ?_
 refine zf (zd (zl (zb (za ?_))))
 refine s_eq ?_
 refine s_as ?_
 refine zf (zd ?_)
 refine zo F1 ?_ ?_ <;> intro C2 F2
 refine zb (za ?_)
 refine s_fa zbQ ?_
 refine zv yA9 ?_
 obtain ⟨v3, V3, F3⟩ := zc F2
 refine zx [] (zgt fu _ _ V3) ?_
 refine s_mv ?_
 refine zp _ 15 F3 ?_ ?_ <;> intro C4 F4
 refine s_fa zgf ?_
 refine zv yA3 ?_
 refine s_eq ?_
 refine zz ?_
 refine s_mv ?_
 refine zp _ 20 F4 ?_ ?_ <;> intro C5 F5
 refine s_fa zeQ ?_
 refine zv yA24 ?_
 obtain ⟨v6, V6, F6⟩ := zc F5
 refine zx [] (zgH fu _ _ V6) ?_
 refine zz ?_
 refine s_mv ?_
 refine zp _ 25 F6 ?_ ?_ <;> intro C7 F7
 refine s_fa zR ?_
 refine zv yA25 ?_
 refine zD yU25 ?_
 refine s_eq ?_
 refine zz ?_
 refine s_as ?_
 refine zf (zd (zh (zj (zg (zm ?_)))))
 cases F7
 exact zk [] [] Tryz.results71
 iterate 4 refine r_no rfl ?_
 refine zy ?_
 refine s_as ?_
 refine zf (zd (zh (zj (zg (zm ?_)))))
 cases F7
 exact zk [] [] Tryz.results71
 iterate 3 refine r_no rfl ?_
 refine zy ?_
 refine s_mv ?_
 iterate 4 refine r_no rfl ?_
 refine zy ?_
 refine s_as ?_
 refine zf (zd (zh (zj (zg (zm ?_)))))
 cases F5
 exact zk [] [] Tryz.results71
 iterate 3 refine r_no rfl ?_
 refine zy ?_
 refine s_mv ?_
 iterate 3 refine r_no rfl ?_
 refine zy ?_
 refine s_mv ?_
 iterate 4 refine r_no rfl ?_
 refine zy ?_
 refine s_as ?_
 refine zf (zd (zh (zj (zg (zm ?_)))))
 cases F4
 exact zk [] [] Tryz.results71
 refine zb (za ?_)
 refine s_eq ?_
 refine s_as ?_
 refine zf (zd ?_)
 refine zo F2 ?_ ?_ <;> intro C8 F3
 refine zb (za ?_)
 refine s_fa zbQ ?_
 refine zv yA9 ?_
 refine zf1 ?_
 refine s_mv ?_
 refine zp _ 36 F3 ?_ ?_ <;> intro C9 F4
 refine s_fa zgf ?_
 refine zv yA3 ?_
 refine s_ge ?_
 refine zz ?_
 refine s_mv ?_
 refine zp _ 41 F4 ?_ ?_ <;> intro C10 F5
 refine s_fa zgf ?_
 refine zv yA3 ?_
 refine s_le ?_
 refine zz ?_
 refine s_mv ?_
 refine zp _ 46 F5 ?_ ?_ <;> intro C11 F6
 refine s_fa zeQ ?_
 refine zv yA24 ?_
 refine zD yU24 ?_
 refine s_eq ?_
 refine zz ?_
 refine s_mv ?_
 refine zp _ 52 F6 ?_ ?_ <;> intro C12 F7
 refine s_fa zR ?_
 refine zv yA25 ?_
 refine zD yU25 ?_
 refine s_eq ?_
 refine zz ?_
 refine s_as ?_
 refine zf (zd (zh (zj (zg (zm ?_)))))
 cases F7
 exact zk [] [] Tryz.results71
 iterate 4 refine r_no rfl ?_
 refine zy ?_
 refine s_as ?_
 refine zf (zd (zh (zj (zg (zm ?_)))))
 cases F7
 exact zk [] [] Tryz.results71
 iterate 4 refine r_no rfl ?_
 refine zy ?_
 refine s_mv ?_
 iterate 4 refine r_no rfl ?_
 refine zy ?_
 refine s_as ?_
 refine zf (zd (zh (zj (zg (zm ?_)))))
 cases F6
 exact zk [] [] Tryz.results71
 iterate 3 refine r_no rfl ?_
 refine zy ?_
 refine s_mv ?_
 iterate 4 refine r_no rfl ?_
 refine zy ?_
 refine s_mv ?_
 iterate 4 refine r_no rfl ?_
 refine zy ?_
 refine s_as ?_
 refine zf (zd (zh (zj (zg (zm ?_)))))
 cases F5
 exact zk [] [] Tryz.results71
 iterate 3 refine r_no rfl ?_
 refine zy ?_
 refine s_mv ?_
 iterate 3 refine r_no rfl ?_
 refine zy ?_
 refine s_mv ?_
 iterate 4 refine r_no rfl ?_
 refine zy ?_
 refine s_mv ?_
 iterate 4 refine r_no rfl ?_
 refine zy ?_
 refine s_as ?_
 refine zf (zd (zh (zj (zg (zm ?_)))))
 cases F4
 exact zk [] [] Tryz.results71
 refine zi (zX (zd (zb (zb (za ?_)))))
 refine s_fa zdF ?_
 refine zv yA3 ?_
 refine s_ne ?_
 refine s_mv ?_
 refine zp _ 61 F3 ?_ ?_ <;> intro C13 F4
 iterate 3 refine r_no rfl ?_
 refine zz ?_
 refine s_mv ?_
 iterate 3 refine r_no rfl ?_
 refine zz ?_
 refine s_mv ?_
 iterate 4 refine r_no rfl ?_
 refine zz ?_
 refine zf (zd (zM rfl (zb (za ?_))))
 refine s_as ?_
 refine zf (zd (zh (zg (zm ?_))))
 cases F4
 exact zk [] [] Tryz.results71
 refine s_fa zbQ ?_
 refine zv yA9 ?_
 refine s_neS ?_
 refine zy ?_
 refine s_mv ?_
 refine zp _ 66 F4 ?_ ?_ <;> intro C14 F5
 iterate 3 refine r_no rfl ?_
 refine zz ?_
 refine s_mv ?_
 iterate 4 refine r_no rfl ?_
 refine zz ?_
 refine zf (zd (zM rfl (zb (za ?_))))
 refine s_as ?_
 refine zf (zd (zh (zg (zm ?_))))
 cases F5
 exact zk [] [] Tryz.results71
 refine s_fa zgf ?_
 refine zv yA3 ?_
 refine s_ne ?_
 refine zy ?_
 refine s_mv ?_
 refine zp _ 71 F5 ?_ ?_ <;> intro C15 F6
 iterate 4 refine r_no rfl ?_
 refine zz ?_
 refine zf (zd (zM rfl (zb (za ?_))))
 refine s_as ?_
 refine zf (zd (zh (zg (zm ?_))))
 cases F6
 exact zk [] [] Tryz.results71
 refine s_fa zeQ ?_
 refine zv yA24 ?_
 refine zD yU24 ?_
 refine s_ne ?_
 refine zy ?_
 refine zf (zd ?_)
 refine zo F6 ?_ ?_ <;> intro C16 F7
 refine zb (za ?_)
 refine s_as ?_
 refine zf (zd (zh (zg (zm ?_))))
 cases F7
 exact zk [] [] Tryz.results71
 refine zi (zd (zb (zb (za ?_))))
 refine s_as ?_
 refine zf (zd (zl ?_))
 refine zbu (β := Int) [4, 5, 77, 78, 79, 80, 81, 82, 83, 84, 85, 86, 87, 88, 89, 90, 91, 92] [] [] (fun a => [(5, .t (.sc (.int .i64 a.2)))]) (fun a => []) (fun a => a.1 ≤ fu ∧ zdk a.1 x1 x2 a.2 = some r ∧ 0 ≤ a.2) (fu, 0) ⟨Nat.le_refl _, F7, by simp⟩ ?_
 clear F7
 rintro ⟨fu, g17⟩ ⟨hl18, F8, hn_g17⟩
 dsimp only at hl18 F8 hn_g17 ⊢
 obtain _ | fu := fu
 · rw [zdk] at F8; cases F8
 rw [zdk] at F8
 refine zb (zb (za ?_))
 refine s_mv ?_
 refine s_fa zR ?_
 refine zv yA25 ?_
 refine zD yU25 ?_
 refine s_lt ?_
 refine zf (zd ?_)
 refine zo F8 ?_ ?_ <;> intro C19 F9
 refine zT 79 (fun B20 => ?_)
 refine zi (zd (zb (zl (zb (za ?_)))))
 refine s_fa zR ?_
 refine zv yA25 ?_
 refine s_mv ?_
 obtain ⟨v21, V21, F10⟩ := zc F9
 refine z7 Form.row V21 (Form.row_eq _) yE25 ?_
 refine za1 yA27 yS27 ?_
 refine s_mv ?_
 refine zgS rfl ?_
 obtain ⟨v22, V22, F11⟩ := zc F10
 refine zx [] (ih_m_spec_l1Is fu (by omega) _ _ _ V22) ?_
 refine zby ?_
 refine zf (zd ?_)
 refine zo F11 ?_ ?_ <;> intro C23 F12
 refine zb (za ?_)
 refine s_as ?_
 refine zf (zd (zh (zj (zg (zw (zj (zg (zm ?_))))))))
 cases F12
 exact zk [] [] Tryz.results71
 refine zi (zX (zd (za ?_)))
 refine s_mv ?_
 refine zQ (zbg C19 B20 hn_g17) ?_
 refine s_as ?_
 refine zf ?_
 exact s_rn (fu, (g17 + 1)) ⟨by first | omega | (dsimp only; omega), F12, by first | omega | (dsimp only; omega)⟩
 refine zC (zr (zq (zu (zd (zb (za ?_))))))
 refine s_as ?_
 refine zf (zd (zh (zm ?_)))
 cases F9
 exact zk [] [] Tryz.results71
theorem m_spec_l1Is_all (fuel : Nat) : zfZ fuel := by
 induction fuel using Nat.strongRecOn with
 | _ N ih =>
   cases N with
   | zero => exact (by intro x1 x2 r h; rw [zer] at h; cases h)
   | succ fu => exact m_spec_l1Is_st fu (fun k hk => (ih k (by omega)))
theorem m_spec_l1Is_ok (fuel : Nat) : zfZ fuel := (m_spec_l1Is_all fuel)
def zeJ (fuel : Nat) : Prop := ∀ (x1 : Form) (r : Int), zdl fuel x1 = some r → AC Tryz.prog 72 [.ag [.t (.sc (.int .i64 x1.kind)), .t (.sc (.str x1.name)), .t (.sc (.int .i64 x1.n)), .t (.sl (x1.scopes.map rI)), .t (.sl (x1.kids.map Form.row))]] noOb (.t (.sc (.int .i64 r))) noOb
theorem m_spec_l1Count_st (fu : Nat) (ih_m_spec_l1Count : ∀ k, k ≤ fu → zeJ k) : zeJ (fu + 1) := by
 intro x1 r F0
 rw [zdl] at F0
 refine AC_i [.t (.sc (.int .i64 r))] Tryz.func72 rfl Tryz.ntmps72 ?_
 intro C hC
 refine zb (za ?_)
 refine zbz ?_
 refine s_as ?_
 refine zf (zd (zb (za ?_)))
 refine s_as ?_
 refine zf (zd (zb (zb (za ?_))))
 refine s_as ?_
 refine zf (zd (zl ?_))
 refine zbu (β := Int × Int) [3, 4, 5, 6, 7, 8, 9, 10, 11, 12, 13, 14, 15, 16, 17, 18, 19] [] [] (fun a => [(3, .t (.sc (.int .i64 a.2.1))), (4, .t (.sc (.int .i64 a.2.2)))]) (fun a => []) (fun a => a.1 ≤ fu ∧ zbN a.1 x1 a.2.1 a.2.2 = some r ∧ 0 ≤ a.2.2) (fu, 1, 0) ⟨Nat.le_refl _, F0, by simp⟩ ?_
 clear F0
 rintro ⟨fu, g1, g2⟩ ⟨hl3, F1, hn_g2⟩
 dsimp only at hl3 F1 hn_g2 ⊢
 obtain _ | fu := fu
 · rw [zbN] at F1; cases F1
 rw [zbN] at F1
 refine zb (zb (za ?_))
 refine s_mv ?_
 refine s_fa zR ?_
 refine zv yA25 ?_
 refine zD yU25 ?_
 refine s_lt ?_
 refine zf (zd ?_)
 refine zo F1 ?_ ?_ <;> intro C4 F2
 refine zT 7 (fun B5 => ?_)
 refine zi (zd (zb (zl (za ?_))))
 refine s_mv ?_
 refine s_fa zR ?_
 refine zv yA25 ?_
 refine s_mv ?_
 obtain ⟨v6, V6, F3⟩ := zc F2
 refine z7 Form.row V6 (Form.row_eq _) yE25 ?_
 refine za1 yA27 yS27 ?_
 obtain ⟨v7, V7, F4⟩ := zc F3
 refine zx [] (ih_m_spec_l1Count fu (by omega) _ _ V7) ?_
 refine zQ rfl ?_
 refine s_as ?_
 refine zf (zX (zd (za ?_)))
 refine s_mv ?_
 refine zQ (zbg C4 B5 hn_g2) ?_
 refine s_as ?_
 refine zf ?_
 exact s_rn (fu, (w64 (g1 + v7)), (g2 + 1)) ⟨by first | omega | (dsimp only; omega), F4, by first | omega | (dsimp only; omega)⟩
 refine zC (zr (zq (zu (zd (zb (za ?_))))))
 refine s_mv ?_
 refine s_as ?_
 refine zf (zd (zh (zm ?_)))
 cases F2
 exact zk [] [] Tryz.results72
theorem m_spec_l1Count_all (fuel : Nat) : zeJ fuel := by
 induction fuel using Nat.strongRecOn with
 | _ N ih =>
   cases N with
   | zero => exact (by intro x1 r h; rw [zdl] at h; cases h)
   | succ fu => exact m_spec_l1Count_st fu (fun k hk => (ih k (by omega)))
theorem m_spec_l1Count_ok (fuel : Nat) : zeJ fuel := (m_spec_l1Count_all fuel)
def m_spec_FormValid_AC (fuel : Nat) : Prop := ∀ (x1 : Form) (r : Bool), zb4 fuel x1 = some r → AC Tryz.prog 24 [.ag [.t (.sc (.int .i64 x1.kind)), .t (.sc (.str x1.name)), .t (.sc (.int .i64 x1.n)), .t (.sl (x1.scopes.map rI)), .t (.sl (x1.kids.map Form.row))]] noOb (.t (.sc (.bool r))) noOb
theorem zdJ (fuel : Nat) : m_spec_FormValid_AC fuel := by
 intro x1 r F0
 unfold zb4 at F0
 refine AC_i [.t (.sc (.bool r))] Tryz.func24 rfl Tryz.ntmps24 ?_
 intro C hC
 refine zb (za ?_)
 refine zbz ?_
 refine s_as ?_
 refine zf (zd (zb (za ?_)))
 refine zI yA27 yS27 ?_
 obtain ⟨v1, V1, F1⟩ := zc F0
 refine zx [] (m_spec_l1Is_ok fuel _ _ _ V1) ?_
 refine s_mv ?_
 refine zp _ 5 F1 ?_ ?_ <;> intro C2 F2
 refine zI yA27 yS27 ?_
 obtain ⟨v3, V3, F3⟩ := zc F2
 refine zx [] (m_spec_l1Count_ok fuel _ _ V3) ?_
 refine s_le ?_
 refine zz ?_
 refine s_as ?_
 refine zf (zd (zh (zm ?_)))
 cases F3
 exact zk [] [] Tryz.results24
 iterate 3 refine r_no rfl ?_
 refine zy ?_
 refine s_as ?_
 refine zf (zd (zh (zm ?_)))
 cases F2
 exact zk [] [] Tryz.results24
def m_spec_ParseForm_AC (fuel : Nat) : Prop := ∀ (x1 : ByteArray) (r : (Form × Bool)), zgb fuel x1 = some r → AC Tryz.prog 104 [.t (.sc (.str x1))] noOb (.tp [.ag [.t (.sc (.int .i64 r.1.kind)), .t (.sc (.str r.1.name)), .t (.sc (.int .i64 r.1.n)), .t (.sl (r.1.scopes.map rI)), .t (.sl (r.1.kids.map Form.row))], .t (.sc (.bool r.2))]) noOb
theorem m_spec_ParseForm_ok (fuel : Nat) : m_spec_ParseForm_AC fuel := by
 intro x1 r F0
 unfold zgb at F0
 refine AC_i [.ag [.t (.sc (.int .i64 r.1.kind)), .t (.sc (.str r.1.name)), .t (.sc (.int .i64 r.1.n)), .t (.sl (r.1.scopes.map rI)), .t (.sl (r.1.kids.map Form.row))], .t (.sc (.bool r.2))] Tryz.func104 rfl Tryz.ntmps104 ?_
 intro C hC
 refine zb (za ?_)
 refine zY yZ27 ?_
 refine s_as ?_
 refine zf (zd (zb (za ?_)))
 refine s_mv ?_
 obtain ⟨v1, V1, F1⟩ := zc F0
 refine zx [] (m_spec_l1Read_ok fuel _ _ _ _ V1) ?_
 refine s_mv ?_
 refine zbP ?_
 refine zbP ?_
 refine zY yZ27 ?_
 refine zap yS27 ?_
 refine s_as ?_
 refine zf (zd (zb (zb (za ?_))))
 refine s_mv ?_
 refine s_lt ?_
 refine s_mv ?_
 refine zp _ 13 F1 ?_ ?_ <;> intro C2 F2
 iterate 6 refine r_no rfl ?_
 refine zz ?_
 refine s_mv ?_
 iterate 3 refine r_no rfl ?_
 refine zz ?_
 refine zf (zd (zM rfl (zb (za ?_))))
 refine zgz yZ27 yL27 ?_
 refine zap yS27 ?_
 refine s_as ?_
 refine zf (zd (zh (zg (zm ?_))))
 cases F2
 exact zag [] [] (by rw [Tryz.results104]; exact (zal (by conv => lhs; whnf) (by conv => lhs; whnf) yA27 yS27 rfl (zaU (by conv => lhs; whnf) zaq)))
 refine s_mv ?_
 refine s_mv ?_
 obtain ⟨v3, V3, F3⟩ := zc F2
 refine zx [] (ze3 fuel _ _ _ V3) ?_
 refine s_mv ?_
 refine zen yU9 ?_
 refine s_ne ?_
 refine zy ?_
 refine s_mv ?_
 refine zp _ 21 F3 ?_ ?_ <;> intro C4 F4
 iterate 3 refine r_no rfl ?_
 refine zz ?_
 refine zf (zd (zM rfl (zb (za ?_))))
 refine zgz yZ27 yL27 ?_
 refine zap yS27 ?_
 refine s_as ?_
 refine zf (zd (zh (zg (zm ?_))))
 cases F4
 exact zag [] [] (by rw [Tryz.results104]; exact (zal (by conv => lhs; whnf) (by conv => lhs; whnf) yA27 yS27 rfl (zaU (by conv => lhs; whnf) zaq)))
 refine zI yA27 yS27 ?_
 obtain ⟨v5, V5, F5⟩ := zc F4
 refine zx [] (zdJ fuel _ _ V5) ?_
 refine zby ?_
 refine zy ?_
 refine zf (zd ?_)
 refine zo F5 ?_ ?_ <;> intro C6 F6
 refine zb (za ?_)
 refine zgz yZ27 yL27 ?_
 refine zap yS27 ?_
 refine s_as ?_
 refine zf (zd (zh (zg (zm ?_))))
 cases F6
 exact zag [] [] (by rw [Tryz.results104]; exact (zal (by conv => lhs; whnf) (by conv => lhs; whnf) yA27 yS27 rfl (zaU (by conv => lhs; whnf) zaq)))
 refine zi (zd (zb (za ?_)))
 refine zI yA27 yS27 ?_
 refine zap yS27 ?_
 refine s_as ?_
 refine zf (zd (zh (zm ?_)))
 cases F6
 exact zag [] [] (by rw [Tryz.results104]; exact (zal (by conv => lhs; whnf) (by conv => lhs; whnf) yA27 yS27 rfl (zaU (by conv => lhs; whnf) zaq)))
def m_spec_l1Parse_AC (fuel : Nat) : Prop := ∀ (x1 : ByteArray) (r : Form), zec fuel x1 = some r → AC Tryz.prog 44 [.t (.sc (.str x1))] noOb (.ag [.t (.sc (.int .i64 r.kind)), .t (.sc (.str r.name)), .t (.sc (.int .i64 r.n)), .t (.sl (r.scopes.map rI)), .t (.sl (r.kids.map Form.row))]) noOb
theorem zfS (fuel : Nat) : m_spec_l1Parse_AC fuel := by
 intro x1 r F0
 unfold zec at F0
 refine AC_i [.ag [.t (.sc (.int .i64 r.kind)), .t (.sc (.str r.name)), .t (.sc (.int .i64 r.n)), .t (.sl (r.scopes.map rI)), .t (.sl (r.kids.map Form.row))]] Tryz.func44 rfl Tryz.ntmps44 ?_
 intro C hC
 refine zb (za ?_)
 refine zY yZ27 ?_
 refine zf (zd (zb (za ?_)))
 refine s_mv ?_
 obtain ⟨v1, V1, F1⟩ := zc F0
 refine zx [] (m_spec_ParseForm_ok fuel _ _ V1) ?_
 refine s_mv ?_
 refine zbP ?_
 refine zbP ?_
 refine zY yZ27 ?_
 refine zap yS27 ?_
 refine s_as ?_
 refine zf (zd (zb (za ?_)))
 refine zI yA27 yS27 ?_
 refine zap yS27 ?_
 refine zf (zd (zh (zm ?_)))
 cases F1
 exact zag [] [] (by rw [Tryz.results44]; exact (zal (by conv => lhs; whnf) (by conv => lhs; whnf) yA27 yS27 rfl zaq))
def m_spec_l1Name_AC (fuel : Nat) : Prop := ∀ (x1 : ByteArray) (r : Form), zfv fuel x1 = some r → AC Tryz.prog 45 [.t (.sc (.str x1))] noOb (.ag [.t (.sc (.int .i64 r.kind)), .t (.sc (.str r.name)), .t (.sc (.int .i64 r.n)), .t (.sl (r.scopes.map rI)), .t (.sl (r.kids.map Form.row))]) noOb
theorem m_spec_l1Name_ok (fuel : Nat) : m_spec_l1Name_AC fuel := by
 intro x1 r F0
 unfold zfv at F0
 refine AC_i [.ag [.t (.sc (.int .i64 r.kind)), .t (.sc (.str r.name)), .t (.sc (.int .i64 r.n)), .t (.sl (r.scopes.map rI)), .t (.sl (r.kids.map Form.row))]] Tryz.func45 rfl Tryz.ntmps45 ?_
 intro C hC
 refine zb (za ?_)
 refine zY yZ27 ?_
 refine zf (zd (zb (za ?_)))
 refine s_mv ?_
 refine zgz yZ27 yL27 ?_
 refine zap yS27 ?_
 refine zf (zd (zh (zm ?_)))
 cases F0
 exact zag [] [] (by rw [Tryz.results45]; exact (zal (by conv => lhs; whnf) (by conv => lhs; whnf) yA27 yS27 rfl zaq))
def ze7 (fuel : Nat) : Prop := ∀ (x1 : Form) (r : Form), zcn fuel x1 = some r → AC Tryz.prog 86 [.ag [.t (.sc (.int .i64 x1.kind)), .t (.sc (.str x1.name)), .t (.sc (.int .i64 x1.n)), .t (.sl (x1.scopes.map rI)), .t (.sl (x1.kids.map Form.row))]] (objs []) (.ag [.t (.sc (.int .i64 r.kind)), .t (.sc (.str r.name)), .t (.sc (.int .i64 r.n)), .ar 9203, .ar 9204]) (objs [(9203, .arr (r.scopes.map rI) 3 true), (9204, .arr (r.kids.map Form.row) 27 true)])
theorem m_spec_l1Copy_st (fu : Nat) (ih_m_spec_l1Copy : ∀ k, k ≤ fu → ze7 k) : ze7 (fu + 1) := by
 intro x1 r F0
 rw [zcn] at F0
 refine AC_i [.ag [.t (.sc (.int .i64 r.kind)), .t (.sc (.str r.name)), .t (.sc (.int .i64 r.n)), .ar 9203, .ar 9204]] Tryz.func86 rfl Tryz.ntmps86 ?_
 intro C hC
 refine zb (za ?_)
 refine zbz ?_
 refine zY yZ27 ?_
 refine zf (zd (zb ?_))
 refine zW yMix (by kernel_rfl) ?_
 refine s_fa zdF ?_
 refine zv yA3 ?_
 refine s_fa zbQ ?_
 refine zv yA9 ?_
 refine s_fa zgf ?_
 refine zv yA3 ?_
 refine s_bs rI ([] : List Int) yP24 yR3 ?_
 refine s_fa zeQ ?_
 refine zv yA24 ?_
 obtain ⟨hk1, F1⟩ := zai F0
 refine zfo rI (fun _ => rfl) hk1 yP24 ?_
 refine zgz yZ27 yL27 ?_
 refine zY yZ27 ?_
 refine zap yS27 ?_
 refine zaA (by kernel_rfl) ?_
 refine zd (zb (zb (za ?_)))
 refine s_as ?_
 refine zf (zd (zl ?_))
 refine awp_ownB 3 5020 27 [.t (.sc (.int .i64 x1.kind)), .t (.sc (.str x1.name)), .t (.sc (.int .i64 x1.n)), .ar 14, .ar 5020] yI27.choose_spec ?_
 refine zax [4, 16, 17, 18, 19, 20, 21, 22, 23, 24, 25, 26, 27, 28, 29, 30, 31, 32, 33] [3, 5020] [31, 32, 2030, 12030] [5020] (fun a : Nat × Int × (List Form) => a.1) (fun a : Nat × Int × (List Form) => [(4, .t (.sc (.int .i64 a.2.1)))]) (fun a : Nat × Int × (List Form) => [(3, .box [.t (.sc (.int .i64 x1.kind)), .t (.sc (.str x1.name)), .t (.sc (.int .i64 x1.n)), .ar 14, .ar 5020]), (5020, .arr (a.2.2.map Form.row) 27 true)]) (fun a : Nat × Int × (List Form) => a.1 ≤ fu ∧ zb3 a.1 x1 a.2.1 a.2.2 = some r ∧ 0 ≤ a.2.1) (fu, 0, ([] : List Form)) ⟨Nat.le_refl _, F1, by simp⟩ (by rfl) (by rfl) (fun _ => rfl) (zL (by conv => lhs; whnf) (by rfl) zbx) (zP (by conv => lhs; whnf) (by rfl) (zP (by conv => lhs; whnf) (by rfl) zbm)) (zcx hC rfl) (by repeat (first | exact zak rfl | refine zaG rfl ?_ | refine zZ rfl ?_)) (by repeat (first | exact za3 | exact zas rfl | refine zaH rfl ?_ | refine z6 rfl ?_)) ?_
 clear F1
 rintro ⟨fu, g2, g3⟩ ⟨hl4, F2, hn_g2⟩
 dsimp only at hl4 F2 hn_g2 ⊢
 obtain _ | fu := fu
 · rw [zb3] at F2; cases F2
 rw [zb3] at F2
 refine zb (zb (za ?_))
 refine s_mv ?_
 refine s_fa zR ?_
 refine zv yA25 ?_
 refine zD yU25 ?_
 refine s_lt ?_
 refine zf (zd ?_)
 refine zo F2 ?_ ?_ <;> intro C5 F3
 refine zT 18 (fun B6 => ?_)
 refine zi (zd (zb (zl ?_)))
 refine zW yMix (by kernel_rfl) ?_
 refine s_fa zR ?_
 refine zv yA25 ?_
 refine s_fa zR ?_
 refine zv yA25 ?_
 refine s_mv ?_
 obtain ⟨v7, V7, F4⟩ := zc F3
 refine z7 Form.row V7 (Form.row_eq _) yE25 ?_
 refine za1 yA27 yS27 ?_
 obtain ⟨v8, V8, F5⟩ := zc F4
 refine zN [(9203, 2030), (9204, 12030)] [] _ _ (ih_m_spec_l1Copy fu (by omega) _ _ V8) ?_
 refine s_bs Form.row [v8] yP25 yR27 ?_
 obtain ⟨hk9, F6⟩ := zai F5
 refine zfo Form.row (fun y => Form.row_len y) hk9 yP25 ?_
 refine s_fa zR ?_
 refine s_stP yS25 ?_
 refine zaA (by kernel_rfl) ?_
 refine zX (zd (za ?_))
 refine s_mv ?_
 refine zQ (zbg C5 B6 hn_g2) ?_
 refine s_as ?_
 refine zf ?_
 exact s_rn (fu, (g2 + 1), (g3 ++ [v8])) ⟨by first | omega | (dsimp only; omega), F6, by first | omega | (dsimp only; omega)⟩ [(5020, 32)]
 refine zC (zr (zq (zu (zd (zb (za ?_))))))
 refine zI yA27 yS27 ?_
 refine zap yS27 ?_
 refine zf (zd ?_)
 refine zfJ 2 14 9203 [.t (.sc (.int .i64 x1.kind)), .t (.sc (.str x1.name)), .t (.sc (.int .i64 x1.n)), .ar 9203, .ar 5020] ?_
 refine zfJ 2 5020 9204 [.t (.sc (.int .i64 x1.kind)), .t (.sc (.str x1.name)), .t (.sc (.int .i64 x1.n)), .ar 9203, .ar 9204] ?_
 refine zh (zm ?_)
 cases F3
 exact zag _ [] (by rw [Tryz.results86]; exact (zal (by conv => lhs; whnf) (by conv => lhs; whnf) yA27 yS27 rfl zaq))
theorem m_spec_l1Copy_all (fuel : Nat) : ze7 fuel := by
 induction fuel using Nat.strongRecOn with
 | _ N ih =>
   cases N with
   | zero => exact (by intro x1 r h; rw [zcn] at h; cases h)
   | succ fu => exact m_spec_l1Copy_st fu (fun k hk => (ih k (by omega)))
theorem ze6 (fuel : Nat) : ze7 fuel := (m_spec_l1Copy_all fuel)
def m_spec_l15Rd_num_AC (fuel : Nat) : Prop := ∀ (o1 : zb9) (x2 : (List Int)) (r : (Int × zb9)), zaM fuel o1 x2 = some r → AC Tryz.prog 105 [.rf 9000 0, .t (.sl (x2.map rI))] (objs [(9000, .box [.t (.sl (o1.b.map rB)), .t (.sc (.int .i64 o1.p))])]) (.t (.sc (.int .i64 r.1))) (objs [(9000, .box [.t (.sl (r.2.b.map rB)), .t (.sc (.int .i64 r.2.p))])])
theorem zcd (fuel : Nat) : m_spec_l15Rd_num_AC fuel := by
 intro o1 x2 r F0
 unfold zaM at F0
 refine AC_i [.t (.sc (.int .i64 r.1))] Tryz.func105 rfl Tryz.ntmps105 ?_
 intro C hC
 refine zb (za ?_)
 refine s_as ?_
 refine zf (zd (zb (za ?_)))
 iterate 3 refine s_mv ?_
 refine zD yU24 ?_
 obtain ⟨v1, V1, F1⟩ := zc F0
 refine zN [(9000, 9000)] [] _ _ (zar fuel _ _ _ V1) ?_
 obtain ⟨v2, V2, F2⟩ := zc F1
 refine z7 rI V2 rfl yE24 ?_
 refine zv yA3 ?_
 refine s_as ?_
 refine zf (zd (zh (zm ?_)))
 cases F2
 exact zk _ [] Tryz.results105
end Go.Abs
