/- A part of the proof: what the functions that the law calls answer, as pure values. -/
import Derived.Test.YtpmhanibecniaaaDoorKe891fbce8024
set_option linter.unusedSimpArgs false
set_option linter.unusedVariables false
set_option maxHeartbeats 4000000
namespace Go.Abs
def m_spec_l1Letter (fuel : Nat) (x1 : Int) (x2 : Bool) : Option Bool :=
 (bif (decide (97 ≤ x1)) then
 (bif (decide (x1 ≤ 122)) then
 some true
 else
 (bif (decide (x1 = 42)) then
 some true
 else
 (bif (decide (x1 = 63)) then
 some true
 else
 (bif (decide (x1 = 61)) then
 some true
 else
 (bif (decide (x1 = 43)) then
 some true
 else
 (bif (decide (x1 = 60)) then
 some true
 else
 (bif (!x2) then
 (bif (decide (48 ≤ x1)) then
 (bif (decide (x1 ≤ 57)) then
 some true
 else
 some (decide (x1 = 45)))
 else
 some (decide (x1 = 45)))
 else
 some false)))))))
 else
 (bif (decide (x1 = 42)) then
 some true
 else
 (bif (decide (x1 = 63)) then
 some true
 else
 (bif (decide (x1 = 61)) then
 some true
 else
 (bif (decide (x1 = 43)) then
 some true
 else
 (bif (decide (x1 = 60)) then
 some true
 else
 (bif (!x2) then
 (bif (decide (48 ≤ x1)) then
 (bif (decide (x1 ≤ 57)) then
 some true
 else
 some (decide (x1 = 45)))
 else
 some (decide (x1 = 45)))
 else
 some false)))))))
def m_spec_NameValid_l1 (fuel : Nat) (x1 : ByteArray) (g3 : Int) : Option Bool :=
 match fuel with
 | 0 => none
 | fuel + 1 =>
 (bif (decide (g3 < (x1.size : Int))) then
 (bif (decide (g3 ≤ 12)) then
 (bidx x1 g3).bind fun v7 =>
 (m_spec_l1Letter fuel v7 (decide (g3 = 0))).bind fun v8 =>
 (bif (!v8) then
 some false
 else
 m_spec_NameValid_l1 fuel x1 (w64 (g3 + 1)))
 else
 (bif (decide (1 ≤ (x1.size : Int))) then
 some (decide ((x1.size : Int) ≤ 12))
 else
 some false))
 else
 (bif (decide (1 ≤ (x1.size : Int))) then
 some (decide ((x1.size : Int) ≤ 12))
 else
 some false))
def m_spec_NameValid (fuel : Nat) (x1 : ByteArray) : Option Bool :=
 (bif (decide (x1 = (⟨#[46, 46, 46]⟩ : ByteArray))) then
 some true
 else
 (bif (decide (x1 = (⟨#[95]⟩ : ByteArray))) then
 some true
 else
 m_spec_NameValid_l1 fuel x1 0))
def m_spec_l1Scopes_l1 (fuel : Nat) (x1 : (List Int)) (g1 : Int) : Option Bool :=
 match fuel with
 | 0 => none
 | fuel + 1 =>
 (bif (decide (g1 < (x1.length : Int))) then
 (bif (decide (g1 ≤ 24)) then
 (idx x1 g1).bind fun v5 =>
 (bif (decide (v5 < 1)) then
 some false
 else
 (idx x1 g1).bind fun v7 =>
 (bif (decide (99 < v7)) then
 some false
 else
 (bif (decide (0 < g1)) then
 (idx x1 g1).bind fun v10 =>
 (idx x1 (w64 (g1 - 1))).bind fun v11 =>
 (bif (decide (v10 ≤ v11)) then
 some false
 else
 m_spec_l1Scopes_l1 fuel x1 (w64 (g1 + 1)))
 else
 m_spec_l1Scopes_l1 fuel x1 (w64 (g1 + 1)))))
 else
 some (decide ((x1.length : Int) ≤ 24)))
 else
 some (decide ((x1.length : Int) ≤ 24)))
def m_spec_l1Scopes (fuel : Nat) (x1 : (List Int)) : Option Bool :=
 m_spec_l1Scopes_l1 fuel x1 0
mutual
def m_spec_l1Is (fuel : Nat) (x1 : Form) (x2 : Int) : Option Bool :=
 match fuel with
 | 0 => none
 | fuel + 1 =>
 (bif (decide (x2 = 0)) then
 some false
 else
 (bif (decide (x1.kind = 1)) then
 (m_spec_NameValid fuel x1.name).bind fun v3 =>
 (bif v3 then
 (bif (decide (x1.n = 0)) then
 (m_spec_l1Scopes fuel x1.scopes).bind fun v6 =>
 (bif v6 then
 some (decide ((x1.kids.length : Int) = 0))
 else
 some false)
 else
 some false)
 else
 some false)
 else
 (bif (decide (x1.kind = 2)) then
 (bif (decide (x1.name = (⟨#[]⟩ : ByteArray))) then
 (bif (decide (0 ≤ x1.n)) then
 (bif (decide (x1.n ≤ 999)) then
 (bif (decide ((x1.scopes.length : Int) = 0)) then
 some (decide ((x1.kids.length : Int) = 0))
 else
 some false)
 else
 some false)
 else
 some false)
 else
 some false)
 else
 (bif (decide (x1.kind ≠ 3)) then
 some false
 else
 (bif (decide (x1.name ≠ (⟨#[]⟩ : ByteArray))) then
 some false
 else
 (bif (decide (x1.n ≠ 0)) then
 some false
 else
 (bif (decide ((x1.scopes.length : Int) ≠ 0)) then
 some false
 else
 m_spec_l1Is_l1 fuel x1 x2 0)))))))
def m_spec_l1Is_l1 (fuel : Nat) (x1 : Form) (x2 : Int) (g17 : Int) : Option Bool :=
 match fuel with
 | 0 => none
 | fuel + 1 =>
 (bif (decide (g17 < (x1.kids.length : Int))) then
 (idx x1.kids g17).bind fun v21 =>
 (m_spec_l1Is fuel v21 (w64 (x2 - 1))).bind fun v22 =>
 (bif (!v22) then
 some false
 else
 m_spec_l1Is_l1 fuel x1 x2 (g17 + 1))
 else
 some true)
end
mutual
def m_spec_l1Count (fuel : Nat) (x1 : Form) : Option Int :=
 match fuel with
 | 0 => none
 | fuel + 1 =>
 m_spec_l1Count_l1 fuel x1 1 0
def m_spec_l1Count_l1 (fuel : Nat) (x1 : Form) (g1 : Int) (g2 : Int) : Option Int :=
 match fuel with
 | 0 => none
 | fuel + 1 =>
 (bif (decide (g2 < (x1.kids.length : Int))) then
 (idx x1.kids g2).bind fun v6 =>
 (m_spec_l1Count fuel v6).bind fun v7 =>
 m_spec_l1Count_l1 fuel x1 (w64 (g1 + v7)) (g2 + 1)
 else
 some g1)
end
def m_spec_FormValid (fuel : Nat) (x1 : Form) : Option Bool :=
 (m_spec_l1Is fuel x1 40).bind fun v1 =>
 (bif v1 then
 (m_spec_l1Count fuel x1).bind fun v3 =>
 some (decide (v3 ≤ 400))
 else
 some false)
def m_strings_IndexByte (fuel : Nat) (x1 : ByteArray) (x2 : Int) : Option Int :=
 some (Lib.indexByte x1.data.toList x2.toNat.toUInt8)
def m_impl_within (fuel : Nat) (x1 : Int) (x2 : Int) (x3 : Int) : Option Bool :=
 (bif (decide (x2 ≤ x1)) then
 some (decide (x1 ≤ x3))
 else
 some false)
def m_impl_NameValid_l1 (fuel : Nat) (x1 : ByteArray) (g3 : Int) : Option Bool :=
 match fuel with
 | 0 => none
 | fuel + 1 =>
 (bif (decide (g3 < (x1.size : Int))) then
 (bidx x1 g3).bind fun v6 =>
 (bif (decide (97 ≤ v6)) then
 (bif (decide (v6 ≤ 122)) then
 m_impl_NameValid_l1 fuel x1 (w64 (g3 + 1))
 else
 (m_strings_IndexByte fuel (⟨#[42, 63, 61, 43, 60]⟩ : ByteArray) v6).bind fun v9 =>
 (bif (decide (0 ≤ v9)) then
 m_impl_NameValid_l1 fuel x1 (w64 (g3 + 1))
 else
 (bif (decide (0 < g3)) then
 (bif (decide (48 ≤ v6)) then
 (bif (decide (v6 ≤ 57)) then
 m_impl_NameValid_l1 fuel x1 (w64 (g3 + 1))
 else
 (bif (decide (v6 = 45)) then
 m_impl_NameValid_l1 fuel x1 (w64 (g3 + 1))
 else
 some false))
 else
 (bif (decide (v6 = 45)) then
 m_impl_NameValid_l1 fuel x1 (w64 (g3 + 1))
 else
 some false))
 else
 some false)))
 else
 (m_strings_IndexByte fuel (⟨#[42, 63, 61, 43, 60]⟩ : ByteArray) v6).bind fun v16 =>
 (bif (decide (0 ≤ v16)) then
 m_impl_NameValid_l1 fuel x1 (w64 (g3 + 1))
 else
 (bif (decide (0 < g3)) then
 (bif (decide (48 ≤ v6)) then
 (bif (decide (v6 ≤ 57)) then
 m_impl_NameValid_l1 fuel x1 (w64 (g3 + 1))
 else
 (bif (decide (v6 = 45)) then
 m_impl_NameValid_l1 fuel x1 (w64 (g3 + 1))
 else
 some false))
 else
 (bif (decide (v6 = 45)) then
 m_impl_NameValid_l1 fuel x1 (w64 (g3 + 1))
 else
 some false))
 else
 some false)))
 else
 (m_impl_within fuel (x1.size : Int) 1 12).bind fun v23 =>
 some v23)
def m_impl_NameValid (fuel : Nat) (x1 : ByteArray) : Option Bool :=
 (bif (decide (x1 = (⟨#[46, 46, 46]⟩ : ByteArray))) then
 some true
 else
 (bif (decide (x1 = (⟨#[95]⟩ : ByteArray))) then
 some true
 else
 m_impl_NameValid_l1 fuel x1 0))
def m_impl_scopesOk_l1 (fuel : Nat) (x1 : (List Int)) (g1 : Int) : Option Bool :=
 match fuel with
 | 0 => none
 | fuel + 1 =>
 (bif (decide (g1 < (x1.length : Int))) then
 (idx x1 g1).bind fun v5 =>
 (m_impl_within fuel v5 1 99).bind fun v6 =>
 (bif (!v6) then
 some false
 else
 (bif (decide (0 < g1)) then
 (idx x1 (w64 (g1 - 1))).bind fun v9 =>
 (bif (decide (v5 ≤ v9)) then
 some false
 else
 m_impl_scopesOk_l1 fuel x1 (g1 + 1))
 else
 m_impl_scopesOk_l1 fuel x1 (g1 + 1)))
 else
 some (decide ((x1.length : Int) ≤ 24)))
def m_impl_scopesOk (fuel : Nat) (x1 : (List Int)) : Option Bool :=
 m_impl_scopesOk_l1 fuel x1 0
mutual
def m_impl_formOk (fuel : Nat) (x1 : Form) (x2 : Int) (o1 : Int) : Option (Bool × Int) :=
 match fuel with
 | 0 => none
 | fuel + 1 =>
 (bif (decide ((w64 (o1 - 1)) < 0)) then
 some (false, (w64 (o1 - 1)))
 else
 (bif (decide (40 < x2)) then
 some (false, (w64 (o1 - 1)))
 else
 (bif (decide (x1.kind = 1)) then
 (m_impl_NameValid fuel x1.name).bind fun v4 =>
 (bif v4 then
 (bif (decide (x1.n = 0)) then
 (m_impl_scopesOk fuel x1.scopes).bind fun v7 =>
 (bif v7 then
 some ((decide ((x1.kids.length : Int) = 0)), (w64 (o1 - 1)))
 else
 some (false, (w64 (o1 - 1))))
 else
 some (false, (w64 (o1 - 1))))
 else
 some (false, (w64 (o1 - 1))))
 else
 (bif (decide (x1.kind = 2)) then
 (bif (decide (x1.name = (⟨#[]⟩ : ByteArray))) then
 (m_impl_within fuel x1.n 0 999).bind fun v11 =>
 (bif v11 then
 (bif (decide ((x1.scopes.length : Int) = 0)) then
 some ((decide ((x1.kids.length : Int) = 0)), (w64 (o1 - 1)))
 else
 some (false, (w64 (o1 - 1))))
 else
 some (false, (w64 (o1 - 1))))
 else
 some (false, (w64 (o1 - 1))))
 else
 (bif (decide (x1.kind = 3)) then
 (bif (decide (x1.name ≠ (⟨#[]⟩ : ByteArray))) then
 some (false, (w64 (o1 - 1)))
 else
 (bif (decide (x1.n ≠ 0)) then
 some (false, (w64 (o1 - 1)))
 else
 (bif (decide (0 < (x1.scopes.length : Int))) then
 some (false, (w64 (o1 - 1)))
 else
 m_impl_formOk_l1 fuel x1 x2 0 (w64 (o1 - 1)))))
 else
 some (false, (w64 (o1 - 1))))))))
def m_impl_formOk_l1 (fuel : Nat) (x1 : Form) (x2 : Int) (g19 : Int) (g20 : Int) : Option (Bool × Int) :=
 match fuel with
 | 0 => none
 | fuel + 1 =>
 (bif (decide (g19 < (x1.kids.length : Int))) then
 (idx x1.kids g19).bind fun v24 =>
 (m_impl_formOk fuel v24 (w64 (x2 + 1)) g20).bind fun v25 =>
 (bif (!v25.1) then
 some (false, v25.2)
 else
 m_impl_formOk_l1 fuel x1 x2 (g19 + 1) v25.2)
 else
 some (true, g20))
end
def m_impl_FormValid (fuel : Nat) (x1 : Form) : Option Bool :=
 (m_impl_formOk fuel x1 1 400).bind fun v1 =>
 some v1.1
def m_laws_eqIntS_l1 (fuel : Nat) (x1 : (List Int)) (x2 : (List Int)) (g2 : Int) : Option Bool :=
 match fuel with
 | 0 => none
 | fuel + 1 =>
 (bif (decide (g2 < (x1.length : Int))) then
 (idx x1 g2).bind fun v6 =>
 (idx x2 g2).bind fun v7 =>
 (bif (decide (v6 ≠ v7)) then
 some false
 else
 m_laws_eqIntS_l1 fuel x1 x2 (g2 + 1))
 else
 some true)
def m_laws_eqIntS (fuel : Nat) (x1 : (List Int)) (x2 : (List Int)) : Option Bool :=
 (bif (decide ((x1.length : Int) ≠ (x2.length : Int))) then
 some false
 else
 m_laws_eqIntS_l1 fuel x1 x2 0)
mutual
def m_laws_eqForm (fuel : Nat) (x1 : Form) (x2 : Form) : Option Bool :=
 match fuel with
 | 0 => none
 | fuel + 1 =>
 (bif (decide (x1.kind ≠ x2.kind)) then
 some false
 else
 (bif (decide (x1.name ≠ x2.name)) then
 some false
 else
 (bif (decide (x1.n ≠ x2.n)) then
 some false
 else
 (m_laws_eqIntS fuel x1.scopes x2.scopes).bind fun v4 =>
 (bif (!v4) then
 some false
 else
 (m_laws_eqFormS fuel x1.kids x2.kids).bind fun v6 =>
 (bif (!v6) then
 some false
 else
 some true)))))
def m_laws_eqFormS (fuel : Nat) (x1 : (List Form)) (x2 : (List Form)) : Option Bool :=
 match fuel with
 | 0 => none
 | fuel + 1 =>
 (bif (decide ((x1.length : Int) ≠ (x2.length : Int))) then
 some false
 else
 m_laws_eqFormS_l1 fuel x1 x2 0)
def m_laws_eqFormS_l1 (fuel : Nat) (x1 : (List Form)) (x2 : (List Form)) (g2 : Int) : Option Bool :=
 match fuel with
 | 0 => none
 | fuel + 1 =>
 (bif (decide (g2 < (x1.length : Int))) then
 (idx x1 g2).bind fun v6 =>
 (idx x2 g2).bind fun v7 =>
 (m_laws_eqForm fuel v6 v7).bind fun v8 =>
 (bif (!v8) then
 some false
 else
 m_laws_eqFormS_l1 fuel x1 x2 (g2 + 1))
 else
 some true)
end
def m_spec_l1Skip_l1 (fuel : Nat) (x1 : ByteArray) (g1 : Int) : Option Int :=
 match fuel with
 | 0 => none
 | fuel + 1 =>
 (bif (decide (g1 < (x1.size : Int))) then
 (bidx x1 g1).bind fun v4 =>
 (bif (decide (v4 = 32)) then
 m_spec_l1Skip_l1 fuel x1 (w64 (g1 + 1))
 else
 some g1)
 else
 some g1)
def m_spec_l1Skip (fuel : Nat) (x1 : ByteArray) (x2 : Int) : Option Int :=
 m_spec_l1Skip_l1 fuel x1 x2
def m_spec_l1Word_l1 (fuel : Nat) (x1 : ByteArray) (g1 : Int) : Option Int :=
 match fuel with
 | 0 => none
 | fuel + 1 =>
 (bif (decide (g1 < (x1.size : Int))) then
 (bidx x1 g1).bind fun v4 =>
 (bif (decide (v4 ≠ 32)) then
 (bidx x1 g1).bind fun v6 =>
 (bif (decide (v6 ≠ 40)) then
 (bidx x1 g1).bind fun v8 =>
 (bif (decide (v8 ≠ 41)) then
 (bidx x1 g1).bind fun v10 =>
 (bif (decide (v10 ≠ 123)) then
 m_spec_l1Word_l1 fuel x1 (w64 (g1 + 1))
 else
 some g1)
 else
 some g1)
 else
 some g1)
 else
 some g1)
 else
 some g1)
def m_spec_l1Word (fuel : Nat) (x1 : ByteArray) (x2 : Int) : Option Int :=
 m_spec_l1Word_l1 fuel x1 x2
mutual
def m_spec_l15Num_j5 (fuel : Nat) (g3 : Bool) (g7 : ByteArray) (g16 : Int) (g17 : Int) (g23 : Bool) : Option (Int × Bool) :=
 match fuel with
 | 0 => none
 | fuel + 1 =>
 (bif g23 then
 some (0, false)
 else
 (bidx g7 g17).bind fun v26 =>
 m_spec_l15Num_l4 fuel g3 g7 (w64 ((w64 (g16 * 10)) + (w64 (w8 (v26 - 48))))) (w64 (g17 + 1)))
def m_spec_l15Num_l4 (fuel : Nat) (g3 : Bool) (g7 : ByteArray) (g16 : Int) (g17 : Int) : Option (Int × Bool) :=
 match fuel with
 | 0 => none
 | fuel + 1 =>
 (bif (decide (g17 < (g7.size : Int))) then
 (bidx g7 g17).bind fun v20 =>
 (bif (decide (v20 < 48)) then
 m_spec_l15Num_j5 fuel g3 g7 g16 g17 true
 else
 (bidx g7 g17).bind fun v22 =>
 m_spec_l15Num_j5 fuel g3 g7 g16 g17 (decide (57 < v22)))
 else
 (bif g3 then
 some ((w64 (0 - g16)), true)
 else
 some (g16, true)))
def m_spec_l15Num_j3 (fuel : Nat) (g3 : Bool) (g7 : ByteArray) : Option (Int × Bool) :=
 match fuel with
 | 0 => none
 | fuel + 1 =>
 m_spec_l15Num_l4 fuel g3 g7 0 0
def m_spec_l15Num_j2 (fuel : Nat) (g3 : Bool) (g7 : ByteArray) : Option (Int × Bool) :=
 match fuel with
 | 0 => none
 | fuel + 1 =>
 (bif (decide ((g7.size : Int) = 0)) then
 some (0, false)
 else
 (bif (decide (17 < (g7.size : Int))) then
 some (0, false)
 else
 (bidx g7 0).bind fun v11 =>
 (bif (decide (v11 = 48)) then
 (bif (decide (1 < (g7.size : Int))) then
 some (0, false)
 else
 (bif g3 then
 some (0, false)
 else
 m_spec_l15Num_j3 fuel g3 g7 ))
 else
 m_spec_l15Num_j3 fuel g3 g7 )))
def m_spec_l15Num_j1 (fuel : Nat) (x1 : ByteArray) (g3 : Bool) : Option (Int × Bool) :=
 match fuel with
 | 0 => none
 | fuel + 1 =>
 (bif g3 then
 (bsub x1 1 (x1.size : Int)).bind fun v6 =>
 m_spec_l15Num_j2 fuel g3 v6
 else
 m_spec_l15Num_j2 fuel g3 x1)
end
def m_spec_l15Num (fuel : Nat) (x1 : ByteArray) : Option (Int × Bool) :=
 (bif (decide (0 < (x1.size : Int))) then
 (bidx x1 0).bind fun v2 =>
 m_spec_l15Num_j1 fuel x1 (decide (v2 = 45))
 else
 m_spec_l15Num_j1 fuel x1 false)
mutual
def m_spec_l15Cut_j2 (fuel : Nat) (x1 : ByteArray) (x2 : Int) (g1 : (List ByteArray)) (g2 : Int) (g3 : Int) (g8 : Bool) : Option (List ByteArray) :=
 match fuel with
 | 0 => none
 | fuel + 1 =>
 (bif g8 then
 (bsub x1 g2 g3).bind fun v11 =>
 chk (decide ((g1.length + [v11].length) * 16 ≤ 140737488355328)) <|
 m_spec_l15Cut_l1 fuel x1 x2 (g1 ++ [v11]) (w64 (g3 + 1)) (w64 (g3 + 1))
 else
 m_spec_l15Cut_l1 fuel x1 x2 g1 g2 (w64 (g3 + 1)))
def m_spec_l15Cut_l1 (fuel : Nat) (x1 : ByteArray) (x2 : Int) (g1 : (List ByteArray)) (g2 : Int) (g3 : Int) : Option (List ByteArray) :=
 match fuel with
 | 0 => none
 | fuel + 1 =>
 (bif (decide (g3 ≤ (x1.size : Int))) then
 (bif (decide (g3 = (x1.size : Int))) then
 m_spec_l15Cut_j2 fuel x1 x2 g1 g2 g3 true
 else
 (bidx x1 g3).bind fun v7 =>
 m_spec_l15Cut_j2 fuel x1 x2 g1 g2 g3 (decide (v7 = x2)))
 else
 some g1)
end
def m_spec_l15Cut (fuel : Nat) (x1 : ByteArray) (x2 : Int) : Option (List ByteArray) :=
 m_spec_l15Cut_l1 fuel x1 x2 ([] : List ByteArray) 0 0
mutual
def m_spec_l1Sets_l3 (fuel : Nat) (x1 : ByteArray) (x2 : Int) (g6 : Int) : Option ((List Int) × Int) :=
 match fuel with
 | 0 => none
 | fuel + 1 =>
 (bif (decide (g6 < (x1.size : Int))) then
 (bidx x1 g6).bind fun v9 =>
 (bif (decide (v9 ≠ 125)) then
 m_spec_l1Sets_l3 fuel x1 x2 (w64 (g6 + 1))
 else
 m_spec_l1Sets_j2 fuel x1 x2 g6)
 else
 m_spec_l1Sets_j2 fuel x1 x2 g6)
def m_spec_l1Sets_j5 (fuel : Nat) (g11 : Int) (v15 : (List ByteArray)) (g16 : (List Int)) (g17 : Int) (g20 : Bool) : Option ((List Int) × Int) :=
 match fuel with
 | 0 => none
 | fuel + 1 =>
 (bif g20 then
 (idx v15 g17).bind fun v23 =>
 (m_spec_l15Num fuel v23).bind fun v24 =>
 (bif (!v24.2) then
 some (g16, (-1))
 else
 chk (decide ((g16.length + [v24.1].length) * 8 ≤ 140737488355328)) <|
 m_spec_l1Sets_l4 fuel g11 v15 (g16 ++ [v24.1]) (w64 (g17 + 1)))
 else
 some (g16, (w64 (g11 + 1))))
def m_spec_l1Sets_l4 (fuel : Nat) (g11 : Int) (v15 : (List ByteArray)) (g16 : (List Int)) (g17 : Int) : Option ((List Int) × Int) :=
 match fuel with
 | 0 => none
 | fuel + 1 =>
 (bif (decide (g17 < (v15.length : Int))) then
 m_spec_l1Sets_j5 fuel g11 v15 g16 g17 (decide (g17 ≤ 24))
 else
 m_spec_l1Sets_j5 fuel g11 v15 g16 g17 false)
def m_spec_l1Sets_j2 (fuel : Nat) (x1 : ByteArray) (x2 : Int) (g11 : Int) : Option ((List Int) × Int) :=
 match fuel with
 | 0 => none
 | fuel + 1 =>
 (bif (decide (g11 = (x1.size : Int))) then
 some (([] : List Int), (-1))
 else
 (bsub x1 (w64 (x2 + 1)) g11).bind fun v14 =>
 (m_spec_l15Cut fuel v14 44).bind fun v15 =>
 m_spec_l1Sets_l4 fuel g11 v15 ([] : List Int) 0)
def m_spec_l1Sets_j1 (fuel : Nat) (x1 : ByteArray) (x2 : Int) (g3 : Bool) : Option ((List Int) × Int) :=
 match fuel with
 | 0 => none
 | fuel + 1 =>
 (bif g3 then
 some (([] : List Int), x2)
 else
 m_spec_l1Sets_l3 fuel x1 x2 x2)
end
def m_spec_l1Sets (fuel : Nat) (x1 : ByteArray) (x2 : Int) : Option ((List Int) × Int) :=
 (bif (decide ((x1.size : Int) ≤ x2)) then
 m_spec_l1Sets_j1 fuel x1 x2 true
 else
 (bidx x1 x2).bind fun v2 =>
 m_spec_l1Sets_j1 fuel x1 x2 (decide (v2 ≠ 123)))
def m_spec_l1Atom (fuel : Nat) (x1 : ByteArray) (x2 : Int) : Option (Form × Int) :=
 (m_spec_l1Word fuel x1 x2).bind fun v1 =>
 (bsub x1 x2 v1).bind fun v2 =>
 (m_spec_l15Num fuel v2).bind fun v3 =>
 (bif v3.2 then
 some ((Form.mk 2 (⟨#[]⟩ : ByteArray) v3.1 ([] : List Int) ([] : List Form)), v1)
 else
 (bif (decide (v2 = (⟨#[]⟩ : ByteArray))) then
 some ((Form.mk 0 (⟨#[]⟩ : ByteArray) 0 ([] : List Int) ([] : List Form)), (-1))
 else
 (m_spec_l1Sets fuel x1 v1).bind fun v6 =>
 some ((Form.mk 1 v2 0 v6.1 ([] : List Form)), v6.2)))
mutual
def m_spec_l1Read (fuel : Nat) (x1 : ByteArray) (x2 : Int) (x3 : Int) : Option (Form × Int) :=
 match fuel with
 | 0 => none
 | fuel + 1 =>
 (m_spec_l1Skip fuel x1 x2).bind fun v1 =>
 (bif (decide ((x1.size : Int) ≤ v1)) then
 m_spec_l1Read_j1 fuel x1 x3 v1 true
 else
 m_spec_l1Read_j1 fuel x1 x3 v1 (decide (x3 = 0)))
def m_spec_l1Read_j4 (fuel : Nat) (x1 : ByteArray) (x3 : Int) (g10 : Int) (g11 : (List Form)) (g16 : Bool) : Option (Form × Int) :=
 match fuel with
 | 0 => none
 | fuel + 1 =>
 (bif g16 then
 (m_spec_l1Read fuel x1 g10 (w64 (x3 - 1))).bind fun v19 =>
 (bif (decide (v19.2 < 0)) then
 some ((Form.mk 3 (⟨#[]⟩ : ByteArray) 0 ([] : List Int) g11), (-1))
 else
 chk (decide ((g11.length + [v19.1].length) * 80 ≤ 140737488355328)) <|
 (m_spec_l1Skip fuel x1 v19.2).bind fun v22 =>
 m_spec_l1Read_l3 fuel x1 x3 v22 (g11 ++ [v19.1]))
 else
 m_spec_l1Read_j2 fuel x1 g10 g11)
def m_spec_l1Read_l3 (fuel : Nat) (x1 : ByteArray) (x3 : Int) (g10 : Int) (g11 : (List Form)) : Option (Form × Int) :=
 match fuel with
 | 0 => none
 | fuel + 1 =>
 (bif (decide (g10 < (x1.size : Int))) then
 (bidx x1 g10).bind fun v14 =>
 (bif (decide (v14 ≠ 41)) then
 m_spec_l1Read_j4 fuel x1 x3 g10 g11 (decide ((g11.length : Int) < 400))
 else
 m_spec_l1Read_j4 fuel x1 x3 g10 g11 false)
 else
 m_spec_l1Read_j4 fuel x1 x3 g10 g11 false)
def m_spec_l1Read_j5 (fuel : Nat) (g23 : Int) (g24 : (List Form)) (g28 : Bool) : Option (Form × Int) :=
 match fuel with
 | 0 => none
 | fuel + 1 =>
 (bif g28 then
 some ((Form.mk 3 (⟨#[]⟩ : ByteArray) 0 ([] : List Int) g24), (-1))
 else
 some ((Form.mk 3 (⟨#[]⟩ : ByteArray) 0 ([] : List Int) g24), (w64 (g23 + 1))))
def m_spec_l1Read_j2 (fuel : Nat) (x1 : ByteArray) (g23 : Int) (g24 : (List Form)) : Option (Form × Int) :=
 match fuel with
 | 0 => none
 | fuel + 1 =>
 (bif (decide ((x1.size : Int) ≤ g23)) then
 m_spec_l1Read_j5 fuel g23 g24 true
 else
 (bidx x1 g23).bind fun v27 =>
 m_spec_l1Read_j5 fuel g23 g24 (decide (v27 ≠ 41)))
def m_spec_l1Read_j1 (fuel : Nat) (x1 : ByteArray) (x3 : Int) (v1 : Int) (g3 : Bool) : Option (Form × Int) :=
 match fuel with
 | 0 => none
 | fuel + 1 =>
 (bif g3 then
 some ((Form.mk 0 (⟨#[]⟩ : ByteArray) 0 ([] : List Int) ([] : List Form)), (-1))
 else
 (bidx x1 v1).bind fun v6 =>
 (bif (decide (v6 ≠ 40)) then
 (m_spec_l1Atom fuel x1 v1).bind fun v8 =>
 some (v8.1, v8.2)
 else
 (m_spec_l1Skip fuel x1 (w64 (v1 + 1))).bind fun v9 =>
 m_spec_l1Read_l3 fuel x1 x3 v9 ([] : List Form)))
end
def m_spec_ParseForm (fuel : Nat) (x1 : ByteArray) : Option (Form × Bool) :=
 (m_spec_l1Read fuel x1 0 40).bind fun v1 =>
 (bif (decide (v1.2 < 0)) then
 some ((Form.mk 0 (⟨#[]⟩ : ByteArray) 0 ([] : List Int) ([] : List Form)), false)
 else
 (m_spec_l1Skip fuel x1 v1.2).bind fun v3 =>
 (bif (decide (v3 ≠ (x1.size : Int))) then
 some ((Form.mk 0 (⟨#[]⟩ : ByteArray) 0 ([] : List Int) ([] : List Form)), false)
 else
 (m_spec_FormValid fuel v1.1).bind fun v5 =>
 (bif (!v5) then
 some ((Form.mk 0 (⟨#[]⟩ : ByteArray) 0 ([] : List Int) ([] : List Form)), false)
 else
 some (v1.1, true))))
def m_laws_markIntS_l1 (fuel : Nat) (g1 : Int) (g2 : Int) (g3 : (List Int)) : Option (Int × (List Int)) :=
 match fuel with
 | 0 => none
 | fuel + 1 =>
 (bif (decide (g2 < (g3.length : Int))) then
 (idx g3 g2).bind fun v7 =>
 m_laws_markIntS_l1 fuel  (w64 (g1 + 1)) (g2 + 1) (g3.set g2.toNat g1)
 else
 some (g1, g3))
def m_laws_markIntS (fuel : Nat) (x1 : (List Int)) (x2 : Int) : Option (Int × (List Int)) :=
 m_laws_markIntS_l1 fuel  x2 0 x1
def m_laws_markText_l1 (fuel : Nat) (g2 : Int) (g3 : ByteArray) : Option ByteArray :=
 match fuel with
 | 0 => none
 | fuel + 1 =>
 (bif (decide (0 < g2)) then
 (bcat (strOf [(w8 (w64 (48 + (g2.tmod 10))))]) g3).bind fun v6 =>
 m_laws_markText_l1 fuel  (w64 (g2.tdiv 10)) v6
 else
 (bcat (⟨#[109]⟩ : ByteArray) g3).bind fun v7 =>
 some v7)
def m_laws_markText (fuel : Nat) (x1 : Int) : Option ByteArray :=
 (bif (decide (x1 ≤ 0)) then
 some (⟨#[109, 48]⟩ : ByteArray)
 else
 m_laws_markText_l1 fuel  x1 (⟨#[]⟩ : ByteArray))
mutual
def m_laws_markFormS (fuel : Nat) (x1 : (List Form)) (x2 : Int) : Option (Int × (List Form)) :=
 match fuel with
 | 0 => none
 | fuel + 1 =>
 m_laws_markFormS_l1 fuel  x2 0 x1
def m_laws_markFormS_l1 (fuel : Nat) (g1 : Int) (g2 : Int) (g3 : (List Form)) : Option (Int × (List Form)) :=
 match fuel with
 | 0 => none
 | fuel + 1 =>
 (bif (decide (g2 < (g3.length : Int))) then
 (idx g3 g2).bind fun v6 =>
 (m_laws_markText fuel (w64 (g1 + 1))).bind fun v7 =>
 (idx (g3.set g2.toNat (Form.mk g1 v6.name v6.n v6.scopes v6.kids)) g2).bind fun v8 =>
 (idx ((g3.set g2.toNat (Form.mk g1 v6.name v6.n v6.scopes v6.kids)).set g2.toNat (Form.mk v8.kind v7 v8.n v8.scopes v8.kids)) g2).bind fun v9 =>
 (idx (((g3.set g2.toNat (Form.mk g1 v6.name v6.n v6.scopes v6.kids)).set g2.toNat (Form.mk v8.kind v7 v8.n v8.scopes v8.kids)).set g2.toNat (Form.mk v9.kind v9.name (w64 ((w64 (g1 + 1)) + 1)) v9.scopes v9.kids)) g2).bind fun v10 =>
 (m_laws_markIntS fuel v10.scopes (w64 ((w64 ((w64 (g1 + 1)) + 1)) + 1))).bind fun v11 =>
 (idx ((((g3.set g2.toNat (Form.mk g1 v6.name v6.n v6.scopes v6.kids)).set g2.toNat (Form.mk v8.kind v7 v8.n v8.scopes v8.kids)).set g2.toNat (Form.mk v9.kind v9.name (w64 ((w64 (g1 + 1)) + 1)) v9.scopes v9.kids)).set g2.toNat (Form.mk v10.kind v10.name v10.n v11.2 v10.kids)) g2).bind fun v12 =>
 (m_laws_markFormS fuel v12.kids v11.1).bind fun v13 =>
 m_laws_markFormS_l1 fuel  v13.1 (w64 (g2 + 1)) (((((g3.set g2.toNat (Form.mk g1 v6.name v6.n v6.scopes v6.kids)).set g2.toNat (Form.mk v8.kind v7 v8.n v8.scopes v8.kids)).set g2.toNat (Form.mk v9.kind v9.name (w64 ((w64 (g1 + 1)) + 1)) v9.scopes v9.kids)).set g2.toNat (Form.mk v10.kind v10.name v10.n v11.2 v10.kids)).set g2.toNat (Form.mk v12.kind v12.name v12.n v12.scopes v13.2))
 else
 some (g1, g3))
end
def m_laws_markForm (fuel : Nat) (x1 : Form) (x2 : Int) : Option (Int × (List Int) × (List Form)) :=
 (m_laws_markIntS fuel x1.scopes x2).bind fun v1 =>
 (m_laws_markFormS fuel x1.kids v1.1).bind fun v2 =>
 some (v2.1, v1.2, v2.2)
def m_laws_heldIntS_l1 (fuel : Nat) (x1 : (List Int)) (g1 : Int) (g2 : Int) : Option Int :=
 match fuel with
 | 0 => none
 | fuel + 1 =>
 (bif (decide (g2 < (x1.length : Int))) then
 (idx x1 g2).bind fun v6 =>
 (bif (decide (v6 ≠ g1)) then
 some (-1)
 else
 m_laws_heldIntS_l1 fuel x1 (w64 (g1 + 1)) (g2 + 1))
 else
 some g1)
def m_laws_heldIntS (fuel : Nat) (x1 : (List Int)) (x2 : Int) : Option Int :=
 m_laws_heldIntS_l1 fuel x1 x2 0
mutual
def m_laws_heldFormS (fuel : Nat) (x1 : (List Form)) (x2 : Int) : Option Int :=
 match fuel with
 | 0 => none
 | fuel + 1 =>
 m_laws_heldFormS_l1 fuel x1 x2 0
def m_laws_heldFormS_l1 (fuel : Nat) (x1 : (List Form)) (g1 : Int) (g2 : Int) : Option Int :=
 match fuel with
 | 0 => none
 | fuel + 1 =>
 (bif (decide (g2 < (x1.length : Int))) then
 (idx x1 g2).bind fun v6 =>
 (bif (decide (v6.kind ≠ g1)) then
 some (-1)
 else
 (idx x1 g2).bind fun v8 =>
 (m_laws_markText fuel (w64 (g1 + 1))).bind fun v9 =>
 (bif (decide (v8.name ≠ v9)) then
 some (-1)
 else
 (idx x1 g2).bind fun v11 =>
 (bif (decide (v11.n ≠ (w64 ((w64 (g1 + 1)) + 1)))) then
 some (-1)
 else
 (idx x1 g2).bind fun v13 =>
 (m_laws_heldIntS fuel v13.scopes (w64 ((w64 ((w64 (g1 + 1)) + 1)) + 1))).bind fun v14 =>
 (bif (decide (v14 < 0)) then
 some (-1)
 else
 (idx x1 g2).bind fun v16 =>
 (m_laws_heldFormS fuel v16.kids v14).bind fun v17 =>
 (bif (decide (v17 < 0)) then
 some (-1)
 else
 m_laws_heldFormS_l1 fuel x1 v17 (g2 + 1))))))
 else
 some g1)
end
def m_laws_heldForm (fuel : Nat) (x1 : Form) (x2 : Int) : Option Int :=
 (m_laws_heldIntS fuel x1.scopes x2).bind fun v1 =>
 (bif (decide (v1 < 0)) then
 some (-1)
 else
 (m_laws_heldFormS fuel x1.kids v1).bind fun v3 =>
 (bif (decide (v3 < 0)) then
 some (-1)
 else
 some v3))
def m_strings_TrimLeft (fuel : Nat) (x1 : ByteArray) (x2 : ByteArray) : Option ByteArray :=
 chk (decide (x2 = (⟨#[32]⟩ : ByteArray))) <|
 some ⟨(Lib.trimLeftB x1.data.toList 32).toArray⟩
def m_impl_scan_blanks (fuel : Nat) (o1 : scan) : Option (Bool × scan) :=
 (m_strings_TrimLeft fuel o1.s (⟨#[32]⟩ : ByteArray)).bind fun v1 =>
 some ((decide ((v1.size : Int) < (o1.s.size : Int))), (scan.mk v1 o1.bad))
def m_strings_IndexAny (fuel : Nat) (x1 : ByteArray) (x2 : ByteArray) : Option Int :=
 chk (decide (x1.size < 4294967281)) <|
 chk (decide (x2 = (⟨#[32, 40, 41, 123, 125]⟩ : ByteArray))) <|
 some (Lib.indexAny x1.data.toList x2.data.toList)
def m_impl_scan_word_j1 (fuel : Nat) (o1 : scan) (g3 : Int) : Option (ByteArray × scan) :=
 match fuel with
 | 0 => none
 | fuel + 1 =>
 (bsub o1.s 0 g3).bind fun v5 =>
 (bsub o1.s g3 (o1.s.size : Int)).bind fun v6 =>
 some (v5, (scan.mk v6 o1.bad))
def m_impl_scan_word (fuel : Nat) (o1 : scan) : Option (ByteArray × scan) :=
 (m_strings_IndexAny fuel o1.s (⟨#[32, 40, 41, 123, 125]⟩ : ByteArray)).bind fun v1 =>
 (bif (decide (v1 < 0)) then
 m_impl_scan_word_j1 fuel o1 (o1.s.size : Int)
 else
 m_impl_scan_word_j1 fuel o1 v1)
def m_impl_number (fuel : Nat) (x1 : ByteArray) (x2 : Int) : Option (Int × Bool) :=
 chk (decide (x1.size ≤ 140737488355328)) <|
 some (match Lib.atoiAll x1.data.toList with
 | .ok v => (v, (decide ((⟨(Lib.itoa v).toArray⟩ : ByteArray) = x1)) && ((decide (0 ≤ v)) && decide (v ≤ x2)))
 | .range => (Lib.atoiSat x1.data.toList, false)
 | _ => (0, false))
def m_strings_CutPrefix (fuel : Nat) (x1 : ByteArray) (x2 : ByteArray) : Option (ByteArray × Bool) :=
 some (⟨(Lib.trimPrefix x1.data.toList x2.data.toList).toArray⟩, Lib.hasPrefix x1.data.toList x2.data.toList)
def m_strings_Cut (fuel : Nat) (x1 : ByteArray) (x2 : ByteArray) : Option (ByteArray × ByteArray × Bool) :=
 chk (decide (x1.size < 4294967281)) <|
 some (⟨(Lib.cut x1.data.toList x2.data.toList).1.toArray⟩, ⟨(Lib.cut x1.data.toList x2.data.toList).2.1.toArray⟩, (Lib.cut x1.data.toList x2.data.toList).2.2)
def m_strings_Split (fuel : Nat) (x1 : ByteArray) (x2 : ByteArray) : Option (List ByteArray) :=
 chk (decide (x1.size < 4294967281)) <|
 chk (decide (1 ≤ x2.size)) <|
 chk (decide ((Lib.splitB x2 0 (Lib.countB x1 x2) x1).length = Lib.countB x1 x2 + 1)) <|
 chk (decide ((Lib.splitB x2 0 (Lib.countB x1 x2) x1).length ≤ maxLen)) <|
 some (Lib.splitB x2 0 (Lib.countB x1 x2) x1)
mutual
def m_impl_scan_form (fuel : Nat) (o1 : scan) (x2 : Int) : Option (Form × Bool × scan) :=
 match fuel with
 | 0 => none
 | fuel + 1 =>
 (m_impl_scan_blanks fuel o1).bind fun v1 =>
 (bif (decide (v1.2.s = (⟨#[]⟩ : ByteArray))) then
 m_impl_scan_form_j1 fuel x2 v1 true
 else
 m_impl_scan_form_j1 fuel x2 v1 (decide (40 < x2)))
def m_impl_scan_form_j5 (fuel : Nat) (x2 : Int) (g12 : (List Form)) (g17 : ByteArray) (g18 : Bool) (g29 : Bool) : Option (Form × Bool × scan) :=
 match fuel with
 | 0 => none
 | fuel + 1 =>
 (bif g29 then
 some ((Form.mk 0 (⟨#[]⟩ : ByteArray) 0 ([] : List Int) ([] : List Form)), false, (scan.mk g17 true))
 else
 (m_impl_scan_form fuel (scan.mk g17 g18) (w64 (x2 + 1))).bind fun v32 =>
 chk (decide ((g12.length + [v32.1].length) * 80 ≤ 140737488355328)) <|
 m_impl_scan_form_l2 fuel x2 v32.2.1 v32.2.2.s v32.2.2.bad (g12 ++ [v32.1]))
def m_impl_scan_form_j4 (fuel : Nat) (x2 : Int) (g12 : (List Form)) (g16 : Bool) (g17 : ByteArray) (g18 : Bool) (g21 : Bool) : Option (Form × Bool × scan) :=
 match fuel with
 | 0 => none
 | fuel + 1 =>
 (bif g21 then
 some ((Form.mk 0 (⟨#[]⟩ : ByteArray) 0 ([] : List Int) ([] : List Form)), false, (scan.mk g17 true))
 else
 (bidx g17 0).bind fun v24 =>
 (bif (decide (v24 = 41)) then
 (bsub g17 1 (g17.size : Int)).bind fun v26 =>
 some ((Form.mk 3 (⟨#[]⟩ : ByteArray) 0 ([] : List Int) g12), true, (scan.mk v26 g18))
 else
 (bif (!g16) then
 (bidx g17 0).bind fun v28 =>
 m_impl_scan_form_j5 fuel x2 g12 g17 g18 (decide (v28 ≠ 40))
 else
 m_impl_scan_form_j5 fuel x2 g12 g17 g18 false)))
def m_impl_scan_form_j3 (fuel : Nat) (x2 : Int) (g12 : (List Form)) (g16 : Bool) (g17 : ByteArray) (g18 : Bool) : Option (Form × Bool × scan) :=
 match fuel with
 | 0 => none
 | fuel + 1 =>
 (bif g18 then
 m_impl_scan_form_j4 fuel x2 g12 g16 g17 g18 true
 else
 m_impl_scan_form_j4 fuel x2 g12 g16 g17 g18 (decide (g17 = (⟨#[]⟩ : ByteArray))))
def m_impl_scan_form_l2 (fuel : Nat) (x2 : Int) (g9 : Bool) (g10 : ByteArray) (g11 : Bool) (g12 : (List Form)) : Option (Form × Bool × scan) :=
 match fuel with
 | 0 => none
 | fuel + 1 =>
 (m_impl_scan_blanks fuel (scan.mk g10 g11)).bind fun v14 =>
 (bif v14.1 then
 m_impl_scan_form_j3 fuel x2 g12 true v14.2.s v14.2.bad
 else
 m_impl_scan_form_j3 fuel x2 g12 g9 v14.2.s v14.2.bad)
def m_impl_scan_form_j8 (fuel : Nat) (v34 : ByteArray × scan) (v41 : ByteArray × ByteArray × Bool) (v45 : (List ByteArray)) (g46 : Int) (g48 : (List Int)) (v53 : Int × Bool) (g55 : Bool) : Option (Form × Bool × scan) :=
 match fuel with
 | 0 => none
 | fuel + 1 =>
 chk (decide ((g48.length + [v53.1].length) * 8 ≤ 140737488355328)) <|
 m_impl_scan_form_l7 fuel v34 v41 v45 (g46 + 1) g55 (g48 ++ [v53.1])
def m_impl_scan_form_l7 (fuel : Nat) (v34 : ByteArray × scan) (v41 : ByteArray × ByteArray × Bool) (v45 : (List ByteArray)) (g46 : Int) (g47 : Bool) (g48 : (List Int)) : Option (Form × Bool × scan) :=
 match fuel with
 | 0 => none
 | fuel + 1 =>
 (bif (decide (g46 < (v45.length : Int))) then
 (idx v45 g46).bind fun v52 =>
 (m_impl_number fuel v52 99).bind fun v53 =>
 (bif g47 then
 m_impl_scan_form_j8 fuel v34 v41 v45 g46 g48 v53 true
 else
 m_impl_scan_form_j8 fuel v34 v41 v45 g46 g48 v53 (!v53.2))
 else
 some ((Form.mk 1 v34.1 0 g48 ([] : List Form)), true, (scan.mk v41.2.1 g47)))
def m_impl_scan_form_j6 (fuel : Nat) (v34 : ByteArray × scan) (v41 : ByteArray × ByteArray × Bool) (g43 : Bool) : Option (Form × Bool × scan) :=
 match fuel with
 | 0 => none
 | fuel + 1 =>
 (m_strings_Split fuel v41.1 (⟨#[44]⟩ : ByteArray)).bind fun v45 =>
 m_impl_scan_form_l7 fuel v34 v41 v45 0 g43 ([] : List Int)
def m_impl_scan_form_j1 (fuel : Nat) (x2 : Int) (v1 : Bool × scan) (g3 : Bool) : Option (Form × Bool × scan) :=
 match fuel with
 | 0 => none
 | fuel + 1 =>
 (bif g3 then
 some ((Form.mk 0 (⟨#[]⟩ : ByteArray) 0 ([] : List Int) ([] : List Form)), false, (scan.mk v1.2.s true))
 else
 (bidx v1.2.s 0).bind fun v6 =>
 (bif (decide (v6 = 40)) then
 (bsub v1.2.s 1 (v1.2.s.size : Int)).bind fun v8 =>
 m_impl_scan_form_l2 fuel x2 true v8 v1.2.bad ([] : List Form)
 else
 (m_impl_scan_word fuel v1.2).bind fun v34 =>
 (m_impl_number fuel v34.1 999).bind fun v35 =>
 (bif v35.2 then
 some ((Form.mk 2 (⟨#[]⟩ : ByteArray) v35.1 ([] : List Int) ([] : List Form)), false, v34.2)
 else
 (m_impl_NameValid fuel v34.1).bind fun v37 =>
 (bif (!v37) then
 some ((Form.mk 0 (⟨#[]⟩ : ByteArray) 0 ([] : List Int) ([] : List Form)), false, (scan.mk v34.2.s true))
 else
 (m_strings_CutPrefix fuel v34.2.s (⟨#[123]⟩ : ByteArray)).bind fun v39 =>
 (bif (!v39.2) then
 some ((Form.mk 1 v34.1 0 ([] : List Int) ([] : List Form)), false, v34.2)
 else
 (m_strings_Cut fuel v39.1 (⟨#[125]⟩ : ByteArray)).bind fun v41 =>
 (bif v34.2.bad then
 m_impl_scan_form_j6 fuel v34 v41 true
 else
 m_impl_scan_form_j6 fuel v34 v41 (!v41.2.2)))))))
end
def m_impl_ParseForm (fuel : Nat) (x1 : ByteArray) : Option (Form × Bool) :=
 (m_impl_scan_form fuel (scan.mk x1 false) 1).bind fun v1 =>
 (m_impl_scan_blanks fuel v1.2.2).bind fun v2 =>
 (bif v2.2.bad then
 some ((Form.mk 0 (⟨#[]⟩ : ByteArray) 0 ([] : List Int) ([] : List Form)), false)
 else
 (bif (decide (v2.2.s ≠ (⟨#[]⟩ : ByteArray))) then
 some ((Form.mk 0 (⟨#[]⟩ : ByteArray) 0 ([] : List Int) ([] : List Form)), false)
 else
 (m_impl_FormValid fuel v1.1).bind fun v5 =>
 (bif (!v5) then
 some ((Form.mk 0 (⟨#[]⟩ : ByteArray) 0 ([] : List Int) ([] : List Form)), false)
 else
 some (v1.1, true))))
mutual
def m_laws_FnExactParseForm_j2 (fuel : Nat) (v3 : Form × Bool) (v9 : Int × (List Int) × (List Form)) (g16 : Bool) : Option Bool :=
 match fuel with
 | 0 => none
 | fuel + 1 =>
 (bif g16 then
 some false
 else
 (m_laws_heldForm fuel (Form.mk v3.1.kind v3.1.name v3.1.n v9.2.1 v9.2.2) 1).bind fun v19 =>
 (bif (decide (v19 < 0)) then
 some false
 else
 (bif (decide (v19 ≠ v9.1)) then
 some false
 else
 some true)))
def m_laws_FnExactParseForm_j1 (fuel : Nat) (x1 : ByteArray) (v2 : Form × Bool) (v3 : Form × Bool) (g6 : Bool) : Option Bool :=
 match fuel with
 | 0 => none
 | fuel + 1 =>
 (bif g6 then
 some false
 else
 (m_laws_markForm fuel v3.1 1).bind fun v9 =>
 (m_laws_heldForm fuel (Form.mk v3.1.kind v3.1.name v3.1.n v9.2.1 v9.2.2) 1).bind fun v10 =>
 (bif (decide (v10 < 0)) then
 some false
 else
 (bif (decide (v10 ≠ v9.1)) then
 some false
 else
 (m_impl_ParseForm fuel x1).bind fun v13 =>
 (m_laws_eqForm fuel v13.1 v2.1).bind fun v14 =>
 (bif (!v14) then
 m_laws_FnExactParseForm_j2 fuel v3 v9 true
 else
 m_laws_FnExactParseForm_j2 fuel v3 v9 (decide (v13.2 ≠ v2.2))))))
end
def m_laws_FnExactParseForm (fuel : Nat) (x1 : ByteArray) : Option Bool :=
 (bif (decide (1048576 < (x1.size : Int))) then
 some true
 else
 (m_spec_ParseForm fuel x1).bind fun v2 =>
 (m_impl_ParseForm fuel x1).bind fun v3 =>
 (m_laws_eqForm fuel v3.1 v2.1).bind fun v4 =>
 (bif (!v4) then
 m_laws_FnExactParseForm_j1 fuel x1 v2 v3 true
 else
 m_laws_FnExactParseForm_j1 fuel x1 v2 v3 (decide (v3.2 ≠ v2.2))))
end Go.Abs
