/- A part of the proof: what the functions that the law calls answer, as pure values. -/
import Derived.Test.YtidbdmpbcpanjaaGreatDoorK064a2fe3a5b4
set_option linter.unusedSimpArgs false
set_option linter.unusedVariables false
set_option maxHeartbeats 4000000
namespace Go.Abs
def m_spec_l1Letter (fuel : Nat) (x1 : Int) (x2 : Bool) : Option Bool :=
 (bif (decide (97 ≤ x1)) then
 (bif (decide (x1 ≤ 122)) then
 some true
 else
 (bif (decide (x1 = 42)) then
 some true
 else
 (bif (decide (x1 = 63)) then
 some true
 else
 (bif (decide (x1 = 61)) then
 some true
 else
 (bif (decide (x1 = 43)) then
 some true
 else
 (bif (decide (x1 = 60)) then
 some true
 else
 (bif (!x2) then
 (bif (decide (48 ≤ x1)) then
 (bif (decide (x1 ≤ 57)) then
 some true
 else
 some (decide (x1 = 45)))
 else
 some (decide (x1 = 45)))
 else
 some false)))))))
 else
 (bif (decide (x1 = 42)) then
 some true
 else
 (bif (decide (x1 = 63)) then
 some true
 else
 (bif (decide (x1 = 61)) then
 some true
 else
 (bif (decide (x1 = 43)) then
 some true
 else
 (bif (decide (x1 = 60)) then
 some true
 else
 (bif (!x2) then
 (bif (decide (48 ≤ x1)) then
 (bif (decide (x1 ≤ 57)) then
 some true
 else
 some (decide (x1 = 45)))
 else
 some (decide (x1 = 45)))
 else
 some false)))))))
def m_spec_NameValid_l1 (fuel : Nat) (x1 : ByteArray) (g3 : Int) : Option Bool :=
 match fuel with
 | 0 => none
 | fuel + 1 =>
 (bif (decide (g3 < (x1.size : Int))) then
 (bif (decide (g3 ≤ 12)) then
 (bidx x1 g3).bind fun v7 =>
 (m_spec_l1Letter fuel v7 (decide (g3 = 0))).bind fun v8 =>
 (bif (!v8) then
 some false
 else
 m_spec_NameValid_l1 fuel x1 (w64 (g3 + 1)))
 else
 (bif (decide (1 ≤ (x1.size : Int))) then
 some (decide ((x1.size : Int) ≤ 12))
 else
 some false))
 else
 (bif (decide (1 ≤ (x1.size : Int))) then
 some (decide ((x1.size : Int) ≤ 12))
 else
 some false))
def m_spec_NameValid (fuel : Nat) (x1 : ByteArray) : Option Bool :=
 (bif (decide (x1 = (⟨#[46, 46, 46]⟩ : ByteArray))) then
 some true
 else
 (bif (decide (x1 = (⟨#[95]⟩ : ByteArray))) then
 some true
 else
 m_spec_NameValid_l1 fuel x1 0))
def m_spec_l1Scopes_l1 (fuel : Nat) (x1 : (List Int)) (g1 : Int) : Option Bool :=
 match fuel with
 | 0 => none
 | fuel + 1 =>
 (bif (decide (g1 < (x1.length : Int))) then
 (bif (decide (g1 ≤ 24)) then
 (idx x1 g1).bind fun v5 =>
 (bif (decide (v5 < 1)) then
 some false
 else
 (idx x1 g1).bind fun v7 =>
 (bif (decide (99 < v7)) then
 some false
 else
 (bif (decide (0 < g1)) then
 (idx x1 g1).bind fun v10 =>
 (idx x1 (w64 (g1 - 1))).bind fun v11 =>
 (bif (decide (v10 ≤ v11)) then
 some false
 else
 m_spec_l1Scopes_l1 fuel x1 (w64 (g1 + 1)))
 else
 m_spec_l1Scopes_l1 fuel x1 (w64 (g1 + 1)))))
 else
 some (decide ((x1.length : Int) ≤ 24)))
 else
 some (decide ((x1.length : Int) ≤ 24)))
def m_spec_l1Scopes (fuel : Nat) (x1 : (List Int)) : Option Bool :=
 m_spec_l1Scopes_l1 fuel x1 0
mutual
def m_spec_l1Is (fuel : Nat) (x1 : Form) (x2 : Int) : Option Bool :=
 match fuel with
 | 0 => none
 | fuel + 1 =>
 (bif (decide (x2 = 0)) then
 some false
 else
 (bif (decide (x1.kind = 1)) then
 (m_spec_NameValid fuel x1.name).bind fun v3 =>
 (bif v3 then
 (bif (decide (x1.n = 0)) then
 (m_spec_l1Scopes fuel x1.scopes).bind fun v6 =>
 (bif v6 then
 some (decide ((x1.kids.length : Int) = 0))
 else
 some false)
 else
 some false)
 else
 some false)
 else
 (bif (decide (x1.kind = 2)) then
 (bif (decide (x1.name = (⟨#[]⟩ : ByteArray))) then
 (bif (decide (0 ≤ x1.n)) then
 (bif (decide (x1.n ≤ 999)) then
 (bif (decide ((x1.scopes.length : Int) = 0)) then
 some (decide ((x1.kids.length : Int) = 0))
 else
 some false)
 else
 some false)
 else
 some false)
 else
 some false)
 else
 (bif (decide (x1.kind ≠ 3)) then
 some false
 else
 (bif (decide (x1.name ≠ (⟨#[]⟩ : ByteArray))) then
 some false
 else
 (bif (decide (x1.n ≠ 0)) then
 some false
 else
 (bif (decide ((x1.scopes.length : Int) ≠ 0)) then
 some false
 else
 m_spec_l1Is_l1 fuel x1 x2 0)))))))
def m_spec_l1Is_l1 (fuel : Nat) (x1 : Form) (x2 : Int) (g17 : Int) : Option Bool :=
 match fuel with
 | 0 => none
 | fuel + 1 =>
 (bif (decide (g17 < (x1.kids.length : Int))) then
 (idx x1.kids g17).bind fun v21 =>
 (m_spec_l1Is fuel v21 (w64 (x2 - 1))).bind fun v22 =>
 (bif (!v22) then
 some false
 else
 m_spec_l1Is_l1 fuel x1 x2 (g17 + 1))
 else
 some true)
end
mutual
def m_spec_l1Count (fuel : Nat) (x1 : Form) : Option Int :=
 match fuel with
 | 0 => none
 | fuel + 1 =>
 m_spec_l1Count_l1 fuel x1 1 0
def m_spec_l1Count_l1 (fuel : Nat) (x1 : Form) (g1 : Int) (g2 : Int) : Option Int :=
 match fuel with
 | 0 => none
 | fuel + 1 =>
 (bif (decide (g2 < (x1.kids.length : Int))) then
 (idx x1.kids g2).bind fun v6 =>
 (m_spec_l1Count fuel v6).bind fun v7 =>
 m_spec_l1Count_l1 fuel x1 (w64 (g1 + v7)) (g2 + 1)
 else
 some g1)
end
def m_spec_FormValid (fuel : Nat) (x1 : Form) : Option Bool :=
 (m_spec_l1Is fuel x1 40).bind fun v1 =>
 (bif v1 then
 (m_spec_l1Count fuel x1).bind fun v3 =>
 some (decide (v3 ≤ 400))
 else
 some false)
def m_strings_IndexByte (fuel : Nat) (x1 : ByteArray) (x2 : Int) : Option Int :=
 some (Lib.indexByte x1.data.toList x2.toNat.toUInt8)
def m_impl_within (fuel : Nat) (x1 : Int) (x2 : Int) (x3 : Int) : Option Bool :=
 (bif (decide (x2 ≤ x1)) then
 some (decide (x1 ≤ x3))
 else
 some false)
def m_impl_NameValid_l1 (fuel : Nat) (x1 : ByteArray) (g3 : Int) : Option Bool :=
 match fuel with
 | 0 => none
 | fuel + 1 =>
 (bif (decide (g3 < (x1.size : Int))) then
 (bidx x1 g3).bind fun v6 =>
 (bif (decide (97 ≤ v6)) then
 (bif (decide (v6 ≤ 122)) then
 m_impl_NameValid_l1 fuel x1 (w64 (g3 + 1))
 else
 (m_strings_IndexByte fuel (⟨#[42, 63, 61, 43, 60]⟩ : ByteArray) v6).bind fun v9 =>
 (bif (decide (0 ≤ v9)) then
 m_impl_NameValid_l1 fuel x1 (w64 (g3 + 1))
 else
 (bif (decide (0 < g3)) then
 (bif (decide (48 ≤ v6)) then
 (bif (decide (v6 ≤ 57)) then
 m_impl_NameValid_l1 fuel x1 (w64 (g3 + 1))
 else
 (bif (decide (v6 = 45)) then
 m_impl_NameValid_l1 fuel x1 (w64 (g3 + 1))
 else
 some false))
 else
 (bif (decide (v6 = 45)) then
 m_impl_NameValid_l1 fuel x1 (w64 (g3 + 1))
 else
 some false))
 else
 some false)))
 else
 (m_strings_IndexByte fuel (⟨#[42, 63, 61, 43, 60]⟩ : ByteArray) v6).bind fun v16 =>
 (bif (decide (0 ≤ v16)) then
 m_impl_NameValid_l1 fuel x1 (w64 (g3 + 1))
 else
 (bif (decide (0 < g3)) then
 (bif (decide (48 ≤ v6)) then
 (bif (decide (v6 ≤ 57)) then
 m_impl_NameValid_l1 fuel x1 (w64 (g3 + 1))
 else
 (bif (decide (v6 = 45)) then
 m_impl_NameValid_l1 fuel x1 (w64 (g3 + 1))
 else
 some false))
 else
 (bif (decide (v6 = 45)) then
 m_impl_NameValid_l1 fuel x1 (w64 (g3 + 1))
 else
 some false))
 else
 some false)))
 else
 (m_impl_within fuel (x1.size : Int) 1 12).bind fun v23 =>
 some v23)
def m_impl_NameValid (fuel : Nat) (x1 : ByteArray) : Option Bool :=
 (bif (decide (x1 = (⟨#[46, 46, 46]⟩ : ByteArray))) then
 some true
 else
 (bif (decide (x1 = (⟨#[95]⟩ : ByteArray))) then
 some true
 else
 m_impl_NameValid_l1 fuel x1 0))
def m_impl_scopesOk_l1 (fuel : Nat) (x1 : (List Int)) (g1 : Int) : Option Bool :=
 match fuel with
 | 0 => none
 | fuel + 1 =>
 (bif (decide (g1 < (x1.length : Int))) then
 (idx x1 g1).bind fun v5 =>
 (m_impl_within fuel v5 1 99).bind fun v6 =>
 (bif (!v6) then
 some false
 else
 (bif (decide (0 < g1)) then
 (idx x1 (w64 (g1 - 1))).bind fun v9 =>
 (bif (decide (v5 ≤ v9)) then
 some false
 else
 m_impl_scopesOk_l1 fuel x1 (g1 + 1))
 else
 m_impl_scopesOk_l1 fuel x1 (g1 + 1)))
 else
 some (decide ((x1.length : Int) ≤ 24)))
def m_impl_scopesOk (fuel : Nat) (x1 : (List Int)) : Option Bool :=
 m_impl_scopesOk_l1 fuel x1 0
mutual
def m_impl_formOk (fuel : Nat) (x1 : Form) (x2 : Int) (o1 : Int) : Option (Bool × Int) :=
 match fuel with
 | 0 => none
 | fuel + 1 =>
 (bif (decide ((w64 (o1 - 1)) < 0)) then
 some (false, (w64 (o1 - 1)))
 else
 (bif (decide (40 < x2)) then
 some (false, (w64 (o1 - 1)))
 else
 (bif (decide (x1.kind = 1)) then
 (m_impl_NameValid fuel x1.name).bind fun v4 =>
 (bif v4 then
 (bif (decide (x1.n = 0)) then
 (m_impl_scopesOk fuel x1.scopes).bind fun v7 =>
 (bif v7 then
 some ((decide ((x1.kids.length : Int) = 0)), (w64 (o1 - 1)))
 else
 some (false, (w64 (o1 - 1))))
 else
 some (false, (w64 (o1 - 1))))
 else
 some (false, (w64 (o1 - 1))))
 else
 (bif (decide (x1.kind = 2)) then
 (bif (decide (x1.name = (⟨#[]⟩ : ByteArray))) then
 (m_impl_within fuel x1.n 0 999).bind fun v11 =>
 (bif v11 then
 (bif (decide ((x1.scopes.length : Int) = 0)) then
 some ((decide ((x1.kids.length : Int) = 0)), (w64 (o1 - 1)))
 else
 some (false, (w64 (o1 - 1))))
 else
 some (false, (w64 (o1 - 1))))
 else
 some (false, (w64 (o1 - 1))))
 else
 (bif (decide (x1.kind = 3)) then
 (bif (decide (x1.name ≠ (⟨#[]⟩ : ByteArray))) then
 some (false, (w64 (o1 - 1)))
 else
 (bif (decide (x1.n ≠ 0)) then
 some (false, (w64 (o1 - 1)))
 else
 (bif (decide (0 < (x1.scopes.length : Int))) then
 some (false, (w64 (o1 - 1)))
 else
 m_impl_formOk_l1 fuel x1 x2 0 (w64 (o1 - 1)))))
 else
 some (false, (w64 (o1 - 1))))))))
def m_impl_formOk_l1 (fuel : Nat) (x1 : Form) (x2 : Int) (g19 : Int) (g20 : Int) : Option (Bool × Int) :=
 match fuel with
 | 0 => none
 | fuel + 1 =>
 (bif (decide (g19 < (x1.kids.length : Int))) then
 (idx x1.kids g19).bind fun v24 =>
 (m_impl_formOk fuel v24 (w64 (x2 + 1)) g20).bind fun v25 =>
 (bif (!v25.1) then
 some (false, v25.2)
 else
 m_impl_formOk_l1 fuel x1 x2 (g19 + 1) v25.2)
 else
 some (true, g20))
end
def m_impl_FormValid (fuel : Nat) (x1 : Form) : Option Bool :=
 (m_impl_formOk fuel x1 1 400).bind fun v1 =>
 some v1.1
def m_slices_Equal_int_l1 (fuel : Nat) (x1 : (List Int)) (x2 : (List Int)) (g2 : Int) : Option Bool :=
 match fuel with
 | 0 => none
 | fuel + 1 =>
 (bif (decide (g2 < (x1.length : Int))) then
 (idx x1 g2).bind fun v6 =>
 (idx x2 g2).bind fun v7 =>
 (bif (decide (v6 ≠ v7)) then
 some false
 else
 m_slices_Equal_int_l1 fuel x1 x2 (g2 + 1))
 else
 some true)
def m_slices_Equal_int (fuel : Nat) (x1 : (List Int)) (x2 : (List Int)) : Option Bool :=
 (bif (decide ((x1.length : Int) ≠ (x2.length : Int))) then
 some false
 else
 m_slices_Equal_int_l1 fuel x1 x2 0)
mutual
def m_impl_FormSame (fuel : Nat) (x1 : Form) (x2 : Form) : Option Bool :=
 match fuel with
 | 0 => none
 | fuel + 1 =>
 (bif (decide (x1.kind = x2.kind)) then
 (bif (decide (x1.name = x2.name)) then
 (bif (decide (x1.n = x2.n)) then
 (m_slices_Equal_int fuel x1.scopes x2.scopes).bind fun v4 =>
 (bif v4 then
 (m_slices_EqualFunc_Form_FormSame fuel x1.kids x2.kids).bind fun v6 =>
 some v6
 else
 some false)
 else
 some false)
 else
 some false)
 else
 some false)
def m_slices_EqualFunc_Form_FormSame (fuel : Nat) (x1 : (List Form)) (x2 : (List Form)) : Option Bool :=
 match fuel with
 | 0 => none
 | fuel + 1 =>
 (bif (decide ((x1.length : Int) ≠ (x2.length : Int))) then
 some false
 else
 m_slices_EqualFunc_Form_FormSame_l1 fuel x1 x2 0)
def m_slices_EqualFunc_Form_FormSame_l1 (fuel : Nat) (x1 : (List Form)) (x2 : (List Form)) (g2 : Int) : Option Bool :=
 match fuel with
 | 0 => none
 | fuel + 1 =>
 (bif (decide (g2 < (x1.length : Int))) then
 (idx x1 g2).bind fun v6 =>
 (idx x2 g2).bind fun v7 =>
 (m_impl_FormSame fuel v6 v7).bind fun v8 =>
 (bif (!v8) then
 some false
 else
 m_slices_EqualFunc_Form_FormSame_l1 fuel x1 x2 (g2 + 1))
 else
 some true)
end
def m_spec_l15Open (fuel : Nat) (x1 : (List Int)) : Option l15Rd :=
 (bif (decide (2000 < (x1.length : Int))) then
 (sub x1 0 2000).bind fun v3 =>
 some (l15Rd.mk v3 0)
 else
 some (l15Rd.mk x1 0))
def m_spec_l15Rd_pick (fuel : Nat) (o1 : l15Rd) (x2 : Int) : Option (Int × l15Rd) :=
 (bif (decide (x2 < 1)) then
 some (0, (l15Rd.mk o1.b (w64 (o1.p + 1))))
 else
 (bif (decide ((o1.b.length : Int) = 0)) then
 some (0, (l15Rd.mk o1.b (w64 (o1.p + 1))))
 else
 (bif (decide ((w64 ((w64 (o1.p + 1)) - 1)) < (o1.b.length : Int))) then
 (idx o1.b (w64 ((w64 (o1.p + 1)) - 1))).bind fun v4 =>
 chk (decide (x2 ≠ 0)) <|
 some (((w64 v4).tmod x2), (l15Rd.mk o1.b (w64 (o1.p + 1))))
 else
 chk (decide ((o1.b.length : Int) ≠ 0)) <|
 (idx o1.b ((w64 ((w64 (o1.p + 1)) - 1)).tmod (o1.b.length : Int))).bind fun v7 =>
 chk (decide ((o1.b.length : Int) ≠ 0)) <|
 (idx o1.b ((w64 ((w64 ((w64 ((w64 (o1.p + 1)) - 1)) * 7)) + 3)).tmod (o1.b.length : Int))).bind fun v9 =>
 chk (decide ((o1.b.length : Int) ≠ 0)) <|
 chk (decide (x2 ≠ 0)) <|
 some (((xor64 (w64 ((w64 ((w64 ((w64 ((w64 v7) * 131)) + (w64 ((w64 v9) * 1117)))) + (w64 ((w64 ((w64 (o1.p + 1)) - 1)) * 29)))) + (w64 ((w64 ((w64 ((w64 (o1.p + 1)) - 1)).tdiv (o1.b.length : Int))) * 53)))) (w64 ((w64 ((w64 ((w64 ((w64 ((w64 v7) * 131)) + (w64 ((w64 v9) * 1117)))) + (w64 ((w64 ((w64 (o1.p + 1)) - 1)) * 29)))) + (w64 ((w64 ((w64 ((w64 (o1.p + 1)) - 1)).tdiv (o1.b.length : Int))) * 53)))).tdiv 64))).tmod x2), (l15Rd.mk o1.b (w64 (o1.p + 1)))))))
def m_spec_l1Skip_l1 (fuel : Nat) (x1 : ByteArray) (g1 : Int) : Option Int :=
 match fuel with
 | 0 => none
 | fuel + 1 =>
 (bif (decide (g1 < (x1.size : Int))) then
 (bidx x1 g1).bind fun v4 =>
 (bif (decide (v4 = 32)) then
 m_spec_l1Skip_l1 fuel x1 (w64 (g1 + 1))
 else
 some g1)
 else
 some g1)
def m_spec_l1Skip (fuel : Nat) (x1 : ByteArray) (x2 : Int) : Option Int :=
 m_spec_l1Skip_l1 fuel x1 x2
def m_spec_l1Word_l1 (fuel : Nat) (x1 : ByteArray) (g1 : Int) : Option Int :=
 match fuel with
 | 0 => none
 | fuel + 1 =>
 (bif (decide (g1 < (x1.size : Int))) then
 (bidx x1 g1).bind fun v4 =>
 (bif (decide (v4 ≠ 32)) then
 (bidx x1 g1).bind fun v6 =>
 (bif (decide (v6 ≠ 40)) then
 (bidx x1 g1).bind fun v8 =>
 (bif (decide (v8 ≠ 41)) then
 (bidx x1 g1).bind fun v10 =>
 (bif (decide (v10 ≠ 123)) then
 m_spec_l1Word_l1 fuel x1 (w64 (g1 + 1))
 else
 some g1)
 else
 some g1)
 else
 some g1)
 else
 some g1)
 else
 some g1)
def m_spec_l1Word (fuel : Nat) (x1 : ByteArray) (x2 : Int) : Option Int :=
 m_spec_l1Word_l1 fuel x1 x2
mutual
def m_spec_l15Num_j5 (fuel : Nat) (g3 : Bool) (g7 : ByteArray) (g16 : Int) (g17 : Int) (g23 : Bool) : Option (Int × Bool) :=
 match fuel with
 | 0 => none
 | fuel + 1 =>
 (bif g23 then
 some (0, false)
 else
 (bidx g7 g17).bind fun v26 =>
 m_spec_l15Num_l4 fuel g3 g7 (w64 ((w64 (g16 * 10)) + (w64 (w8 (v26 - 48))))) (w64 (g17 + 1)))
def m_spec_l15Num_l4 (fuel : Nat) (g3 : Bool) (g7 : ByteArray) (g16 : Int) (g17 : Int) : Option (Int × Bool) :=
 match fuel with
 | 0 => none
 | fuel + 1 =>
 (bif (decide (g17 < (g7.size : Int))) then
 (bidx g7 g17).bind fun v20 =>
 (bif (decide (v20 < 48)) then
 m_spec_l15Num_j5 fuel g3 g7 g16 g17 true
 else
 (bidx g7 g17).bind fun v22 =>
 m_spec_l15Num_j5 fuel g3 g7 g16 g17 (decide (57 < v22)))
 else
 (bif g3 then
 some ((w64 (0 - g16)), true)
 else
 some (g16, true)))
def m_spec_l15Num_j3 (fuel : Nat) (g3 : Bool) (g7 : ByteArray) : Option (Int × Bool) :=
 match fuel with
 | 0 => none
 | fuel + 1 =>
 m_spec_l15Num_l4 fuel g3 g7 0 0
def m_spec_l15Num_j2 (fuel : Nat) (g3 : Bool) (g7 : ByteArray) : Option (Int × Bool) :=
 match fuel with
 | 0 => none
 | fuel + 1 =>
 (bif (decide ((g7.size : Int) = 0)) then
 some (0, false)
 else
 (bif (decide (17 < (g7.size : Int))) then
 some (0, false)
 else
 (bidx g7 0).bind fun v11 =>
 (bif (decide (v11 = 48)) then
 (bif (decide (1 < (g7.size : Int))) then
 some (0, false)
 else
 (bif g3 then
 some (0, false)
 else
 m_spec_l15Num_j3 fuel g3 g7 ))
 else
 m_spec_l15Num_j3 fuel g3 g7 )))
def m_spec_l15Num_j1 (fuel : Nat) (x1 : ByteArray) (g3 : Bool) : Option (Int × Bool) :=
 match fuel with
 | 0 => none
 | fuel + 1 =>
 (bif g3 then
 (bsub x1 1 (x1.size : Int)).bind fun v6 =>
 m_spec_l15Num_j2 fuel g3 v6
 else
 m_spec_l15Num_j2 fuel g3 x1)
end
def m_spec_l15Num (fuel : Nat) (x1 : ByteArray) : Option (Int × Bool) :=
 (bif (decide (0 < (x1.size : Int))) then
 (bidx x1 0).bind fun v2 =>
 m_spec_l15Num_j1 fuel x1 (decide (v2 = 45))
 else
 m_spec_l15Num_j1 fuel x1 false)
mutual
def m_spec_l15Cut_j2 (fuel : Nat) (x1 : ByteArray) (x2 : Int) (g1 : (List ByteArray)) (g2 : Int) (g3 : Int) (g8 : Bool) : Option (List ByteArray) :=
 match fuel with
 | 0 => none
 | fuel + 1 =>
 (bif g8 then
 (bsub x1 g2 g3).bind fun v11 =>
 chk (decide ((g1.length + [v11].length) * 16 ≤ 140737488355328)) <|
 m_spec_l15Cut_l1 fuel x1 x2 (g1 ++ [v11]) (w64 (g3 + 1)) (w64 (g3 + 1))
 else
 m_spec_l15Cut_l1 fuel x1 x2 g1 g2 (w64 (g3 + 1)))
def m_spec_l15Cut_l1 (fuel : Nat) (x1 : ByteArray) (x2 : Int) (g1 : (List ByteArray)) (g2 : Int) (g3 : Int) : Option (List ByteArray) :=
 match fuel with
 | 0 => none
 | fuel + 1 =>
 (bif (decide (g3 ≤ (x1.size : Int))) then
 (bif (decide (g3 = (x1.size : Int))) then
 m_spec_l15Cut_j2 fuel x1 x2 g1 g2 g3 true
 else
 (bidx x1 g3).bind fun v7 =>
 m_spec_l15Cut_j2 fuel x1 x2 g1 g2 g3 (decide (v7 = x2)))
 else
 some g1)
end
def m_spec_l15Cut (fuel : Nat) (x1 : ByteArray) (x2 : Int) : Option (List ByteArray) :=
 m_spec_l15Cut_l1 fuel x1 x2 ([] : List ByteArray) 0 0
mutual
def m_spec_l1Sets_l3 (fuel : Nat) (x1 : ByteArray) (x2 : Int) (g6 : Int) : Option ((List Int) × Int) :=
 match fuel with
 | 0 => none
 | fuel + 1 =>
 (bif (decide (g6 < (x1.size : Int))) then
 (bidx x1 g6).bind fun v9 =>
 (bif (decide (v9 ≠ 125)) then
 m_spec_l1Sets_l3 fuel x1 x2 (w64 (g6 + 1))
 else
 m_spec_l1Sets_j2 fuel x1 x2 g6)
 else
 m_spec_l1Sets_j2 fuel x1 x2 g6)
def m_spec_l1Sets_j5 (fuel : Nat) (g11 : Int) (v15 : (List ByteArray)) (g16 : (List Int)) (g17 : Int) (g20 : Bool) : Option ((List Int) × Int) :=
 match fuel with
 | 0 => none
 | fuel + 1 =>
 (bif g20 then
 (idx v15 g17).bind fun v23 =>
 (m_spec_l15Num fuel v23).bind fun v24 =>
 (bif (!v24.2) then
 some (g16, (-1))
 else
 chk (decide ((g16.length + [v24.1].length) * 8 ≤ 140737488355328)) <|
 m_spec_l1Sets_l4 fuel g11 v15 (g16 ++ [v24.1]) (w64 (g17 + 1)))
 else
 some (g16, (w64 (g11 + 1))))
def m_spec_l1Sets_l4 (fuel : Nat) (g11 : Int) (v15 : (List ByteArray)) (g16 : (List Int)) (g17 : Int) : Option ((List Int) × Int) :=
 match fuel with
 | 0 => none
 | fuel + 1 =>
 (bif (decide (g17 < (v15.length : Int))) then
 m_spec_l1Sets_j5 fuel g11 v15 g16 g17 (decide (g17 ≤ 24))
 else
 m_spec_l1Sets_j5 fuel g11 v15 g16 g17 false)
def m_spec_l1Sets_j2 (fuel : Nat) (x1 : ByteArray) (x2 : Int) (g11 : Int) : Option ((List Int) × Int) :=
 match fuel with
 | 0 => none
 | fuel + 1 =>
 (bif (decide (g11 = (x1.size : Int))) then
 some (([] : List Int), (-1))
 else
 (bsub x1 (w64 (x2 + 1)) g11).bind fun v14 =>
 (m_spec_l15Cut fuel v14 44).bind fun v15 =>
 m_spec_l1Sets_l4 fuel g11 v15 ([] : List Int) 0)
def m_spec_l1Sets_j1 (fuel : Nat) (x1 : ByteArray) (x2 : Int) (g3 : Bool) : Option ((List Int) × Int) :=
 match fuel with
 | 0 => none
 | fuel + 1 =>
 (bif g3 then
 some (([] : List Int), x2)
 else
 m_spec_l1Sets_l3 fuel x1 x2 x2)
end
def m_spec_l1Sets (fuel : Nat) (x1 : ByteArray) (x2 : Int) : Option ((List Int) × Int) :=
 (bif (decide ((x1.size : Int) ≤ x2)) then
 m_spec_l1Sets_j1 fuel x1 x2 true
 else
 (bidx x1 x2).bind fun v2 =>
 m_spec_l1Sets_j1 fuel x1 x2 (decide (v2 ≠ 123)))
def m_spec_l1Atom (fuel : Nat) (x1 : ByteArray) (x2 : Int) : Option (Form × Int) :=
 (m_spec_l1Word fuel x1 x2).bind fun v1 =>
 (bsub x1 x2 v1).bind fun v2 =>
 (m_spec_l15Num fuel v2).bind fun v3 =>
 (bif v3.2 then
 some ((Form.mk 2 (⟨#[]⟩ : ByteArray) v3.1 ([] : List Int) ([] : List Form)), v1)
 else
 (bif (decide (v2 = (⟨#[]⟩ : ByteArray))) then
 some ((Form.mk 0 (⟨#[]⟩ : ByteArray) 0 ([] : List Int) ([] : List Form)), (-1))
 else
 (m_spec_l1Sets fuel x1 v1).bind fun v6 =>
 some ((Form.mk 1 v2 0 v6.1 ([] : List Form)), v6.2)))
mutual
def m_spec_l1Read (fuel : Nat) (x1 : ByteArray) (x2 : Int) (x3 : Int) : Option (Form × Int) :=
 match fuel with
 | 0 => none
 | fuel + 1 =>
 (m_spec_l1Skip fuel x1 x2).bind fun v1 =>
 (bif (decide ((x1.size : Int) ≤ v1)) then
 m_spec_l1Read_j1 fuel x1 x3 v1 true
 else
 m_spec_l1Read_j1 fuel x1 x3 v1 (decide (x3 = 0)))
def m_spec_l1Read_j4 (fuel : Nat) (x1 : ByteArray) (x3 : Int) (g10 : Int) (g11 : (List Form)) (g16 : Bool) : Option (Form × Int) :=
 match fuel with
 | 0 => none
 | fuel + 1 =>
 (bif g16 then
 (m_spec_l1Read fuel x1 g10 (w64 (x3 - 1))).bind fun v19 =>
 (bif (decide (v19.2 < 0)) then
 some ((Form.mk 3 (⟨#[]⟩ : ByteArray) 0 ([] : List Int) g11), (-1))
 else
 chk (decide ((g11.length + [v19.1].length) * 80 ≤ 140737488355328)) <|
 (m_spec_l1Skip fuel x1 v19.2).bind fun v22 =>
 m_spec_l1Read_l3 fuel x1 x3 v22 (g11 ++ [v19.1]))
 else
 m_spec_l1Read_j2 fuel x1 g10 g11)
def m_spec_l1Read_l3 (fuel : Nat) (x1 : ByteArray) (x3 : Int) (g10 : Int) (g11 : (List Form)) : Option (Form × Int) :=
 match fuel with
 | 0 => none
 | fuel + 1 =>
 (bif (decide (g10 < (x1.size : Int))) then
 (bidx x1 g10).bind fun v14 =>
 (bif (decide (v14 ≠ 41)) then
 m_spec_l1Read_j4 fuel x1 x3 g10 g11 (decide ((g11.length : Int) < 400))
 else
 m_spec_l1Read_j4 fuel x1 x3 g10 g11 false)
 else
 m_spec_l1Read_j4 fuel x1 x3 g10 g11 false)
def m_spec_l1Read_j5 (fuel : Nat) (g23 : Int) (g24 : (List Form)) (g28 : Bool) : Option (Form × Int) :=
 match fuel with
 | 0 => none
 | fuel + 1 =>
 (bif g28 then
 some ((Form.mk 3 (⟨#[]⟩ : ByteArray) 0 ([] : List Int) g24), (-1))
 else
 some ((Form.mk 3 (⟨#[]⟩ : ByteArray) 0 ([] : List Int) g24), (w64 (g23 + 1))))
def m_spec_l1Read_j2 (fuel : Nat) (x1 : ByteArray) (g23 : Int) (g24 : (List Form)) : Option (Form × Int) :=
 match fuel with
 | 0 => none
 | fuel + 1 =>
 (bif (decide ((x1.size : Int) ≤ g23)) then
 m_spec_l1Read_j5 fuel g23 g24 true
 else
 (bidx x1 g23).bind fun v27 =>
 m_spec_l1Read_j5 fuel g23 g24 (decide (v27 ≠ 41)))
def m_spec_l1Read_j1 (fuel : Nat) (x1 : ByteArray) (x3 : Int) (v1 : Int) (g3 : Bool) : Option (Form × Int) :=
 match fuel with
 | 0 => none
 | fuel + 1 =>
 (bif g3 then
 some ((Form.mk 0 (⟨#[]⟩ : ByteArray) 0 ([] : List Int) ([] : List Form)), (-1))
 else
 (bidx x1 v1).bind fun v6 =>
 (bif (decide (v6 ≠ 40)) then
 (m_spec_l1Atom fuel x1 v1).bind fun v8 =>
 some (v8.1, v8.2)
 else
 (m_spec_l1Skip fuel x1 (w64 (v1 + 1))).bind fun v9 =>
 m_spec_l1Read_l3 fuel x1 x3 v9 ([] : List Form)))
end
def m_spec_ParseForm (fuel : Nat) (x1 : ByteArray) : Option (Form × Bool) :=
 (m_spec_l1Read fuel x1 0 40).bind fun v1 =>
 (bif (decide (v1.2 < 0)) then
 some ((Form.mk 0 (⟨#[]⟩ : ByteArray) 0 ([] : List Int) ([] : List Form)), false)
 else
 (m_spec_l1Skip fuel x1 v1.2).bind fun v3 =>
 (bif (decide (v3 ≠ (x1.size : Int))) then
 some ((Form.mk 0 (⟨#[]⟩ : ByteArray) 0 ([] : List Int) ([] : List Form)), false)
 else
 (m_spec_FormValid fuel v1.1).bind fun v5 =>
 (bif (!v5) then
 some ((Form.mk 0 (⟨#[]⟩ : ByteArray) 0 ([] : List Int) ([] : List Form)), false)
 else
 some (v1.1, true))))
def m_spec_l1Name (fuel : Nat) (x1 : ByteArray) : Option Form :=
 some (Form.mk 1 x1 0 ([] : List Int) ([] : List Form))
mutual
def m_spec_l1Copy (fuel : Nat) (x1 : Form) : Option Form :=
 match fuel with
 | 0 => none
 | fuel + 1 =>
 chk (decide ((([] : List Int).length + x1.scopes.length) * 8 ≤ 140737488355328)) <|
 m_spec_l1Copy_l1 fuel x1 0 ([] : List Form)
def m_spec_l1Copy_l1 (fuel : Nat) (x1 : Form) (g2 : Int) (g3 : (List Form)) : Option Form :=
 match fuel with
 | 0 => none
 | fuel + 1 =>
 (bif (decide (g2 < (x1.kids.length : Int))) then
 (idx x1.kids g2).bind fun v7 =>
 (m_spec_l1Copy fuel v7).bind fun v8 =>
 chk (decide ((g3.length + [v8].length) * 80 ≤ 140737488355328)) <|
 m_spec_l1Copy_l1 fuel x1 (g2 + 1) (g3 ++ [v8])
 else
 some (Form.mk x1.kind x1.name x1.n (([] : List Int) ++ x1.scopes) g3))
end
def m_spec_l15Rd_num (fuel : Nat) (o1 : l15Rd) (x2 : (List Int)) : Option (Int × l15Rd) :=
 (m_spec_l15Rd_pick fuel o1 (x2.length : Int)).bind fun v1 =>
 (idx x2 v1.1).bind fun v2 =>
 some (v2, v1.2)
def m_spec_l15Rd_of (fuel : Nat) (o1 : l15Rd) (x2 : (List ByteArray)) : Option (ByteArray × l15Rd) :=
 (m_spec_l15Rd_pick fuel o1 (x2.length : Int)).bind fun v1 =>
 (idx x2 v1.1).bind fun v2 =>
 some (v2, v1.2)
def m_spec_l1Mutate (fuel : Nat) (o1 : l15Rd) (x2 : Form) : Option (Form × l15Rd) :=
 match fuel with
 | 0 => none
 | fuel + 1 =>
 (m_spec_l1Copy fuel x2).bind fun v1 =>
 (bif (decide (0 < (v1.kids.length : Int))) then
 (m_spec_l15Rd_pick fuel o1 2).bind fun v3 =>
 (bif (decide (0 < v3.1)) then
 (m_spec_l15Rd_pick fuel v3.2 (v1.kids.length : Int)).bind fun v5 =>
 (idx v1.kids v5.1).bind fun v6 =>
 (m_spec_l1Mutate fuel v5.2 v6).bind fun v7 =>
 (idx v1.kids v5.1).bind fun v8 =>
 some ((Form.mk v1.kind v1.name v1.n v1.scopes (v1.kids.set v5.1.toNat v7.1)), v7.2)
 else
 (m_spec_l15Rd_pick fuel v3.2 14).bind fun v9 =>
 (bif (decide (v9.1 = 0)) then
 (m_spec_l15Rd_num fuel v9.2 [0, 4, 1, 3]).bind fun v11 =>
 some ((Form.mk v11.1 v1.name v1.n v1.scopes v1.kids), v11.2)
 else
 (bif (decide (v9.1 = 1)) then
 (m_spec_l15Rd_of fuel v9.2 [(⟨#[]⟩ : ByteArray), (⟨#[65]⟩ : ByteArray), (⟨#[116, 111, 111, 108, 111, 110, 103, 97, 110, 97, 109, 101, 49]⟩ : ByteArray), (⟨#[122]⟩ : ByteArray), (⟨#[120, 32, 121]⟩ : ByteArray)]).bind fun v13 =>
 some ((Form.mk v1.kind v13.1 v1.n v1.scopes v1.kids), v13.2)
 else
 (bif (decide (v9.1 = 2)) then
 (m_spec_l15Rd_num fuel v9.2 [1000, (-1), 5]).bind fun v15 =>
 some ((Form.mk v1.kind v1.name v15.1 v1.scopes v1.kids), v15.2)
 else
 (bif (decide (v9.1 = 3)) then
 (m_spec_l15Rd_num fuel v9.2 [0, 100, 1, 50]).bind fun v17 =>
 chk (decide ((v1.scopes.length + [v17.1].length) * 8 ≤ 140737488355328)) <|
 some ((Form.mk v1.kind v1.name v1.n (v1.scopes ++ [v17.1]) v1.kids), v17.2)
 else
 some (v1, v9.2))))))
 else
 (m_spec_l15Rd_pick fuel o1 14).bind fun v19 =>
 (bif (decide (v19.1 = 0)) then
 (m_spec_l15Rd_num fuel v19.2 [0, 4, 1, 3]).bind fun v21 =>
 some ((Form.mk v21.1 v1.name v1.n v1.scopes v1.kids), v21.2)
 else
 (bif (decide (v19.1 = 1)) then
 (m_spec_l15Rd_of fuel v19.2 [(⟨#[]⟩ : ByteArray), (⟨#[65]⟩ : ByteArray), (⟨#[116, 111, 111, 108, 111, 110, 103, 97, 110, 97, 109, 101, 49]⟩ : ByteArray), (⟨#[122]⟩ : ByteArray), (⟨#[120, 32, 121]⟩ : ByteArray)]).bind fun v23 =>
 some ((Form.mk v1.kind v23.1 v1.n v1.scopes v1.kids), v23.2)
 else
 (bif (decide (v19.1 = 2)) then
 (m_spec_l15Rd_num fuel v19.2 [1000, (-1), 5]).bind fun v25 =>
 some ((Form.mk v1.kind v1.name v25.1 v1.scopes v1.kids), v25.2)
 else
 (bif (decide (v19.1 = 3)) then
 (m_spec_l15Rd_num fuel v19.2 [0, 100, 1, 50]).bind fun v27 =>
 chk (decide ((v1.scopes.length + [v27.1].length) * 8 ≤ 140737488355328)) <|
 some ((Form.mk v1.kind v1.name v1.n (v1.scopes ++ [v27.1]) v1.kids), v27.2)
 else
 some (v1, v19.2))))))
mutual
def m_spec_l1Dress (fuel : Nat) (o1 : l15Rd) (x2 : Form) : Option (Form × l15Rd) :=
 match fuel with
 | 0 => none
 | fuel + 1 =>
 (m_spec_l1Copy fuel x2).bind fun v1 =>
 (bif (decide (x2.kind = 1)) then
 (m_spec_l15Rd_pick fuel o1 ([([] : List Int), [1], [2], [1, 2], [1, 3], [1, 2, 3], [99]].length : Int)).bind fun v3 =>
 (idx [([] : List Int), [1], [2], [1, 2], [1, 3], [1, 2, 3], [99]] v3.1).bind fun v4 =>
 chk (decide ((([] : List Int).length + v4.length) * 8 ≤ 140737488355328)) <|
 m_spec_l1Dress_l1 fuel v1 v4 0 v3.2.b v3.2.p v1.kids
 else
 m_spec_l1Dress_l2 fuel v1 0 o1.b o1.p v1.kids)
def m_spec_l1Dress_l1 (fuel : Nat) (v1 : Form) (v4 : (List Int)) (g6 : Int) (g7 : (List Int)) (g8 : Int) (g9 : (List Form)) : Option (Form × l15Rd) :=
 match fuel with
 | 0 => none
 | fuel + 1 =>
 (bif (decide (g6 < (g9.length : Int))) then
 (idx g9 g6).bind fun v13 =>
 (m_spec_l1Dress fuel (l15Rd.mk g7 g8) v13).bind fun v14 =>
 (idx g9 g6).bind fun v15 =>
 m_spec_l1Dress_l1 fuel v1 v4 (g6 + 1) v14.2.b v14.2.p (g9.set g6.toNat v14.1)
 else
 some ((Form.mk v1.kind v1.name v1.n (([] : List Int) ++ v4) g9), (l15Rd.mk g7 g8)))
def m_spec_l1Dress_l2 (fuel : Nat) (v1 : Form) (g16 : Int) (g17 : (List Int)) (g18 : Int) (g19 : (List Form)) : Option (Form × l15Rd) :=
 match fuel with
 | 0 => none
 | fuel + 1 =>
 (bif (decide (g16 < (g19.length : Int))) then
 (idx g19 g16).bind fun v23 =>
 (m_spec_l1Dress fuel (l15Rd.mk g17 g18) v23).bind fun v24 =>
 (idx g19 g16).bind fun v25 =>
 m_spec_l1Dress_l2 fuel v1 (g16 + 1) v24.2.b v24.2.p (g19.set g16.toNat v24.1)
 else
 some ((Form.mk v1.kind v1.name v1.n v1.scopes g19), (l15Rd.mk g17 g18)))
end
mutual
def m_spec_l1Some (fuel : Nat) (o1 : l15Rd) (x2 : Int) : Option (Form × l15Rd) :=
 match fuel with
 | 0 => none
 | fuel + 1 =>
 (bif (decide (x2 = 0)) then
 (m_spec_l15Rd_pick fuel o1 4).bind fun v2 =>
 (bif (decide (v2.1 = 0)) then
 (m_spec_l15Rd_num fuel v2.2 [0, 1, 2, 7, 42, 999]).bind fun v4 =>
 some ((Form.mk 2 (⟨#[]⟩ : ByteArray) v4.1 ([] : List Int) ([] : List Form)), v4.2)
 else
 (m_spec_l15Rd_of fuel v2.2 [(⟨#[97]⟩ : ByteArray), (⟨#[98]⟩ : ByteArray), (⟨#[120]⟩ : ByteArray), (⟨#[121]⟩ : ByteArray), (⟨#[102]⟩ : ByteArray), (⟨#[105, 102]⟩ : ByteArray), (⟨#[108, 101, 116]⟩ : ByteArray), (⟨#[43]⟩ : ByteArray)]).bind fun v5 =>
 (m_spec_l1Name fuel v5.1).bind fun v6 =>
 some (v6, v5.2))
 else
 (m_spec_l15Rd_pick fuel o1 3).bind fun v7 =>
 (bif (decide (v7.1 = 0)) then
 (m_spec_l15Rd_pick fuel v7.2 4).bind fun v9 =>
 (bif (decide (v9.1 = 0)) then
 (m_spec_l15Rd_num fuel v9.2 [0, 1, 2, 7, 42, 999]).bind fun v11 =>
 some ((Form.mk 2 (⟨#[]⟩ : ByteArray) v11.1 ([] : List Int) ([] : List Form)), v11.2)
 else
 (m_spec_l15Rd_of fuel v9.2 [(⟨#[97]⟩ : ByteArray), (⟨#[98]⟩ : ByteArray), (⟨#[120]⟩ : ByteArray), (⟨#[121]⟩ : ByteArray), (⟨#[102]⟩ : ByteArray), (⟨#[105, 102]⟩ : ByteArray), (⟨#[108, 101, 116]⟩ : ByteArray), (⟨#[43]⟩ : ByteArray)]).bind fun v12 =>
 (m_spec_l1Name fuel v12.1).bind fun v13 =>
 some (v13, v12.2))
 else
 (m_spec_l15Rd_pick fuel v7.2 4).bind fun v14 =>
 m_spec_l1Some_l1 fuel x2 v14.1 v14.2.b v14.2.p ([] : List Form)))
def m_spec_l1Some_l1 (fuel : Nat) (x2 : Int) (g15 : Int) (g16 : (List Int)) (g17 : Int) (g18 : (List Form)) : Option (Form × l15Rd) :=
 match fuel with
 | 0 => none
 | fuel + 1 =>
 (bif (decide (0 < g15)) then
 (m_spec_l1Some fuel (l15Rd.mk g16 g17) (w64 (x2 - 1))).bind fun v21 =>
 chk (decide ((g18.length + [v21.1].length) * 80 ≤ 140737488355328)) <|
 m_spec_l1Some_l1 fuel x2 (w64 (g15 - 1)) v21.2.b v21.2.p (g18 ++ [v21.1])
 else
 some ((Form.mk 3 (⟨#[]⟩ : ByteArray) 0 ([] : List Int) g18), (l15Rd.mk g16 g17)))
end
mutual
def m_spec_l15Dec (fuel : Nat) (x1 : Int) : Option ByteArray :=
 match fuel with
 | 0 => none
 | fuel + 1 =>
 (bif (decide (x1 < (-9223372036854775807))) then
 some (⟨#[45, 57, 50, 50, 51, 51, 55, 50, 48, 51, 54, 56, 53, 52, 55, 55, 53, 56, 48, 56]⟩ : ByteArray)
 else
 (bif (decide (x1 < 0)) then
 (m_spec_l15Dec fuel (w64 (0 - x1))).bind fun v3 =>
 (bcat (⟨#[45]⟩ : ByteArray) v3).bind fun v4 =>
 some v4
 else
 m_spec_l15Dec_l1 fuel  x1 (⟨#[]⟩ : ByteArray)))
def m_spec_l15Dec_l1 (fuel : Nat) (g5 : Int) (g6 : ByteArray) : Option ByteArray :=
 match fuel with
 | 0 => none
 | fuel + 1 =>
 (bif (decide (9 < g5)) then
 (bcat (strOf [(w8 (w64 (48 + (g5.tmod 10))))]) g6).bind fun v9 =>
 m_spec_l15Dec_l1 fuel  (w64 (g5.tdiv 10)) v9
 else
 (bcat (strOf [(w8 (w64 (48 + g5)))]) g6).bind fun v10 =>
 some v10)
end
mutual
def m_spec_l1Text (fuel : Nat) (x1 : Form) : Option ByteArray :=
 match fuel with
 | 0 => none
 | fuel + 1 =>
 (bif (decide (x1.kind = 2)) then
 (m_spec_l15Dec fuel x1.n).bind fun v2 =>
 some v2
 else
 (bif (decide (x1.kind = 1)) then
 m_spec_l1Text_l2 fuel x1 x1.name 0
 else
 m_spec_l1Text_l5 fuel x1 (⟨#[40]⟩ : ByteArray) 0))
def m_spec_l1Text_j3 (fuel : Nat) (x1 : Form) (g4 : ByteArray) (g5 : Int) (g10 : ByteArray) : Option ByteArray :=
 match fuel with
 | 0 => none
 | fuel + 1 =>
 (bcat g4 g10).bind fun v12 =>
 (idx x1.scopes g5).bind fun v13 =>
 (m_spec_l15Dec fuel v13).bind fun v14 =>
 (bcat v12 v14).bind fun v15 =>
 m_spec_l1Text_l2 fuel x1 v15 (g5 + 1)
def m_spec_l1Text_l2 (fuel : Nat) (x1 : Form) (g4 : ByteArray) (g5 : Int) : Option ByteArray :=
 match fuel with
 | 0 => none
 | fuel + 1 =>
 (bif (decide (g5 < (x1.scopes.length : Int))) then
 (bif (decide (g5 = 0)) then
 m_spec_l1Text_j3 fuel x1 g4 g5 (⟨#[123]⟩ : ByteArray)
 else
 m_spec_l1Text_j3 fuel x1 g4 g5 (⟨#[44]⟩ : ByteArray))
 else
 m_spec_l1Text_j1 fuel x1 g4)
def m_spec_l1Text_j4 (fuel : Nat) (g21 : ByteArray) : Option ByteArray :=
 match fuel with
 | 0 => none
 | fuel + 1 =>
 some g21
def m_spec_l1Text_j1 (fuel : Nat) (x1 : Form) (g16 : ByteArray) : Option ByteArray :=
 match fuel with
 | 0 => none
 | fuel + 1 =>
 (bif (decide (0 < (x1.scopes.length : Int))) then
 (bcat g16 (⟨#[125]⟩ : ByteArray)).bind fun v20 =>
 m_spec_l1Text_j4 fuel  v20
 else
 m_spec_l1Text_j4 fuel  g16)
def m_spec_l1Text_j6 (fuel : Nat) (x1 : Form) (g24 : Int) (g30 : ByteArray) : Option ByteArray :=
 match fuel with
 | 0 => none
 | fuel + 1 =>
 (idx x1.kids g24).bind fun v32 =>
 (m_spec_l1Text fuel v32).bind fun v33 =>
 (bcat g30 v33).bind fun v34 =>
 m_spec_l1Text_l5 fuel x1 v34 (g24 + 1)
def m_spec_l1Text_l5 (fuel : Nat) (x1 : Form) (g23 : ByteArray) (g24 : Int) : Option ByteArray :=
 match fuel with
 | 0 => none
 | fuel + 1 =>
 (bif (decide (g24 < (x1.kids.length : Int))) then
 (bif (decide (0 < g24)) then
 (bcat g23 (⟨#[32]⟩ : ByteArray)).bind fun v29 =>
 m_spec_l1Text_j6 fuel x1 g24 v29
 else
 m_spec_l1Text_j6 fuel x1 g24 g23)
 else
 (bcat g23 (⟨#[41]⟩ : ByteArray)).bind fun v35 =>
 some v35)
end
def m_strings_Join (fuel : Nat) (x1 : List ByteArray) (x2 : ByteArray) : Option ByteArray :=
 chk (decide (x1.length ≤ 140737488355328)) <|
 chk (decide ((Lib.join (x1.map fun s => s.data.toList) x2.data.toList).length ≤ 140737488355328)) <|
 some ⟨(Lib.join (x1.map fun s => s.data.toList) x2.data.toList).toArray⟩
def m_strconv_Itoa (fuel : Nat) (x1 : Int) : Option ByteArray :=
 chk (decide (-9223372036854775808 ≤ x1)) <|
 chk (decide (x1 ≤ 9223372036854775807)) <|
 some ⟨(Lib.itoa x1).toArray⟩
mutual
def m_impl_formText (fuel : Nat) (x1 : Form) : Option ByteArray :=
 match fuel with
 | 0 => none
 | fuel + 1 =>
 (bif (decide (x1.kind = 1)) then
 (bif (decide ((x1.scopes.length : Int) = 0)) then
 some x1.name
 else
 m_impl_formText_l2 fuel x1 ([] : List ByteArray) 0)
 else
 (bif (decide (x1.kind = 2)) then
 (m_strconv_Itoa fuel x1.n).bind fun v18 =>
 some v18
 else
 m_impl_formText_l3 fuel x1 ([] : List ByteArray) 0))
def m_impl_formText_l2 (fuel : Nat) (x1 : Form) (g3 : (List ByteArray)) (g4 : Int) : Option ByteArray :=
 match fuel with
 | 0 => none
 | fuel + 1 =>
 (bif (decide (g4 < (x1.scopes.length : Int))) then
 (idx x1.scopes g4).bind fun v8 =>
 (m_strconv_Itoa fuel v8).bind fun v9 =>
 chk (decide ((g3.length + [v9].length) * 16 ≤ 140737488355328)) <|
 m_impl_formText_l2 fuel x1 (g3 ++ [v9]) (g4 + 1)
 else
 m_impl_formText_j1 fuel x1 g3)
def m_impl_formText_j1 (fuel : Nat) (x1 : Form) (g11 : (List ByteArray)) : Option ByteArray :=
 match fuel with
 | 0 => none
 | fuel + 1 =>
 (bcat x1.name (⟨#[123]⟩ : ByteArray)).bind fun v13 =>
 (m_strings_Join fuel g11 (⟨#[44]⟩ : ByteArray)).bind fun v14 =>
 (bcat v13 v14).bind fun v15 =>
 (bcat v15 (⟨#[125]⟩ : ByteArray)).bind fun v16 =>
 some v16
def m_impl_formText_l3 (fuel : Nat) (x1 : Form) (g19 : (List ByteArray)) (g20 : Int) : Option ByteArray :=
 match fuel with
 | 0 => none
 | fuel + 1 =>
 (bif (decide (g20 < (x1.kids.length : Int))) then
 (idx x1.kids g20).bind fun v24 =>
 (m_impl_formText fuel v24).bind fun v25 =>
 chk (decide ((g19.length + [v25].length) * 16 ≤ 140737488355328)) <|
 m_impl_formText_l3 fuel x1 (g19 ++ [v25]) (g20 + 1)
 else
 (m_strings_Join fuel g19 (⟨#[32]⟩ : ByteArray)).bind fun v27 =>
 (bcat (⟨#[40]⟩ : ByteArray) v27).bind fun v28 =>
 (bcat v28 (⟨#[41]⟩ : ByteArray)).bind fun v29 =>
 some v29)
end
def m_spec_DrawFormValid (fuel : Nat) (x1 : (List Int)) : Option Form :=
 (m_spec_l15Open fuel x1).bind fun v1 =>
 (m_spec_l15Rd_num fuel v1 [3, 2, 4]).bind fun v2 =>
 (m_spec_l1Some fuel v2.2 v2.1).bind fun v3 =>
 (m_spec_l1Dress fuel v3.2 v3.1).bind fun v4 =>
 (m_spec_l1Mutate fuel v4.2 v4.1).bind fun v5 =>
 (m_spec_l1Mutate fuel v5.2 v5.1).bind fun v6 =>
 some v6.1
def m_spec_DrawFormatForm (fuel : Nat) (x1 : (List Int)) : Option Form :=
 (m_spec_DrawFormValid fuel x1).bind fun v1 =>
 some v1
def m_impl_FormatForm (fuel : Nat) (x1 : Form) : Option ByteArray :=
 (m_impl_FormValid fuel x1).bind fun v1 =>
 (bif (!v1) then
 some (⟨#[]⟩ : ByteArray)
 else
 (m_impl_formText fuel x1).bind fun v3 =>
 some v3)
def m_spec_FormatForm (fuel : Nat) (x1 : Form) : Option ByteArray :=
 (m_spec_FormValid fuel x1).bind fun v1 =>
 (bif (!v1) then
 some (⟨#[]⟩ : ByteArray)
 else
 (m_spec_l1Text fuel x1).bind fun v3 =>
 some v3)
def m_strings_TrimLeft (fuel : Nat) (x1 : ByteArray) (x2 : ByteArray) : Option ByteArray :=
 chk (decide (x2 = (⟨#[32]⟩ : ByteArray))) <|
 some ⟨(Lib.trimLeftB x1.data.toList 32).toArray⟩
def m_impl_scan_blanks (fuel : Nat) (o1 : scan) : Option (Bool × scan) :=
 (m_strings_TrimLeft fuel o1.s (⟨#[32]⟩ : ByteArray)).bind fun v1 =>
 some ((decide ((v1.size : Int) < (o1.s.size : Int))), (scan.mk v1 o1.bad))
def m_strings_IndexAny (fuel : Nat) (x1 : ByteArray) (x2 : ByteArray) : Option Int :=
 chk (decide (x1.size < 4294967281)) <|
 chk (decide (x2 = (⟨#[32, 40, 41, 123, 125]⟩ : ByteArray))) <|
 some (Lib.indexAny x1.data.toList x2.data.toList)
def m_impl_scan_word_j1 (fuel : Nat) (o1 : scan) (g3 : Int) : Option (ByteArray × scan) :=
 match fuel with
 | 0 => none
 | fuel + 1 =>
 (bsub o1.s 0 g3).bind fun v5 =>
 (bsub o1.s g3 (o1.s.size : Int)).bind fun v6 =>
 some (v5, (scan.mk v6 o1.bad))
def m_impl_scan_word (fuel : Nat) (o1 : scan) : Option (ByteArray × scan) :=
 (m_strings_IndexAny fuel o1.s (⟨#[32, 40, 41, 123, 125]⟩ : ByteArray)).bind fun v1 =>
 (bif (decide (v1 < 0)) then
 m_impl_scan_word_j1 fuel o1 (o1.s.size : Int)
 else
 m_impl_scan_word_j1 fuel o1 v1)
def m_impl_number (fuel : Nat) (x1 : ByteArray) (x2 : Int) : Option (Int × Bool) :=
 chk (decide (x1.size ≤ 140737488355328)) <|
 some (match Lib.atoiAll x1.data.toList with
 | .ok v => (v, (decide ((⟨(Lib.itoa v).toArray⟩ : ByteArray) = x1)) && ((decide (0 ≤ v)) && decide (v ≤ x2)))
 | .range => (Lib.atoiSat x1.data.toList, false)
 | _ => (0, false))
def m_strings_CutPrefix (fuel : Nat) (x1 : ByteArray) (x2 : ByteArray) : Option (ByteArray × Bool) :=
 some (⟨(Lib.trimPrefix x1.data.toList x2.data.toList).toArray⟩, Lib.hasPrefix x1.data.toList x2.data.toList)
def m_strings_Cut (fuel : Nat) (x1 : ByteArray) (x2 : ByteArray) : Option (ByteArray × ByteArray × Bool) :=
 chk (decide (x1.size < 4294967281)) <|
 some (⟨(Lib.cut x1.data.toList x2.data.toList).1.toArray⟩, ⟨(Lib.cut x1.data.toList x2.data.toList).2.1.toArray⟩, (Lib.cut x1.data.toList x2.data.toList).2.2)
def m_strings_Split (fuel : Nat) (x1 : ByteArray) (x2 : ByteArray) : Option (List ByteArray) :=
 chk (decide (x1.size < 4294967281)) <|
 chk (decide (1 ≤ x2.size)) <|
 chk (decide ((Lib.splitB x2 0 (Lib.countB x1 x2) x1).length = Lib.countB x1 x2 + 1)) <|
 chk (decide ((Lib.splitB x2 0 (Lib.countB x1 x2) x1).length ≤ maxLen)) <|
 some (Lib.splitB x2 0 (Lib.countB x1 x2) x1)
end Go.Abs
