/- A part of the proof: what the functions that the law calls answer, as pure values. -/
import Derived.Test.YtbkdbbfgdjcfgaaK6acd1b830261
set_option linter.unusedSimpArgs false
set_option linter.unusedVariables false
set_option maxHeartbeats 4000000
namespace Go.Abs
def m_laws_szIntS (fuel : Nat) (x1 : (List Int)) (x2 : Int) : Option Int :=
 (bif (decide ((w64 (x2 - (x1.length : Int))) < 0)) then
 some (-1)
 else
 some (w64 (x2 - (x1.length : Int))))
mutual
def m_laws_szForm (fuel : Nat) (x1 : Form) (x2 : Int) : Option Int :=
 match fuel with
 | 0 => none
 | fuel + 1 =>
 (bif (decide ((w64 (x2 - (x1.name.size : Int))) < 0)) then
 some (-1)
 else
 (m_laws_szIntS fuel x1.scopes (w64 (x2 - (x1.name.size : Int)))).bind fun v2 =>
 (bif (decide (v2 < 0)) then
 some (-1)
 else
 (m_laws_szFormS fuel x1.kids v2).bind fun v4 =>
 (bif (decide (v4 < 0)) then
 some (-1)
 else
 some v4)))
def m_laws_szFormS (fuel : Nat) (x1 : (List Form)) (x2 : Int) : Option Int :=
 match fuel with
 | 0 => none
 | fuel + 1 =>
 (bif (decide ((w64 (x2 - (x1.length : Int))) < 0)) then
 some (-1)
 else
 m_laws_szFormS_l1 fuel x1 (w64 (x2 - (x1.length : Int))) 0)
def m_laws_szFormS_l1 (fuel : Nat) (x1 : (List Form)) (g2 : Int) (g3 : Int) : Option Int :=
 match fuel with
 | 0 => none
 | fuel + 1 =>
 (bif (decide (g3 < (x1.length : Int))) then
 (idx x1 g3).bind fun v7 =>
 (m_laws_szForm fuel v7 g2).bind fun v8 =>
 (bif (decide (v8 < 0)) then
 some (-1)
 else
 m_laws_szFormS_l1 fuel x1 v8 (g3 + 1))
 else
 some g2)
end
def m_laws_toIntS_l1 (fuel : Nat) (x1 : (List Int)) (g2 : Int) (g3 : (List Int)) : Option (List Int) :=
 match fuel with
 | 0 => none
 | fuel + 1 =>
 (bif (decide (g2 < (x1.length : Int))) then
 (idx x1 g2).bind fun v7 =>
 (idx g3 g2).bind fun v8 =>
 m_laws_toIntS_l1 fuel x1 (g2 + 1) (g3.set g2.toNat v7)
 else
 some g3)
def m_laws_toIntS (fuel : Nat) (x1 : (List Int)) : Option (List Int) :=
 chk (decide (0 ≤ (x1.length : Int)) && decide ((x1.length : Int).toNat * 8 ≤ 140737488355328)) <|
 m_laws_toIntS_l1 fuel x1 0 (List.replicate (x1.length : Int).toNat 0)
mutual
def m_laws_toForm (fuel : Nat) (x1 : Form) : Option Form :=
 match fuel with
 | 0 => none
 | fuel + 1 =>
 (m_laws_toIntS fuel x1.scopes).bind fun v1 =>
 (m_laws_toFormS fuel x1.kids).bind fun v2 =>
 some (Form.mk x1.kind x1.name x1.n v1 v2)
def m_laws_toFormS (fuel : Nat) (x1 : (List Form)) : Option (List Form) :=
 match fuel with
 | 0 => none
 | fuel + 1 =>
 chk (decide (0 ≤ (x1.length : Int)) && decide ((x1.length : Int).toNat * 80 ≤ 140737488355328)) <|
 m_laws_toFormS_l1 fuel x1 0 (List.replicate (x1.length : Int).toNat (Form.mk 0 (⟨#[]⟩ : ByteArray) 0 ([] : List Int) ([] : List Form)))
def m_laws_toFormS_l1 (fuel : Nat) (x1 : (List Form)) (g2 : Int) (g3 : (List Form)) : Option (List Form) :=
 match fuel with
 | 0 => none
 | fuel + 1 =>
 (bif (decide (g2 < (x1.length : Int))) then
 (idx x1 g2).bind fun v7 =>
 (m_laws_toForm fuel v7).bind fun v8 =>
 (idx g3 g2).bind fun v9 =>
 m_laws_toFormS_l1 fuel x1 (g2 + 1) (g3.set g2.toNat v8)
 else
 some g3)
end
def m_spec_l1Letter (fuel : Nat) (x1 : Int) (x2 : Bool) : Option Bool :=
 (bif (decide (97 ≤ x1)) then
 (bif (decide (x1 ≤ 122)) then
 some true
 else
 (bif (decide (x1 = 42)) then
 some true
 else
 (bif (decide (x1 = 63)) then
 some true
 else
 (bif (decide (x1 = 61)) then
 some true
 else
 (bif (decide (x1 = 43)) then
 some true
 else
 (bif (decide (x1 = 60)) then
 some true
 else
 (bif (!x2) then
 (bif (decide (48 ≤ x1)) then
 (bif (decide (x1 ≤ 57)) then
 some true
 else
 some (decide (x1 = 45)))
 else
 some (decide (x1 = 45)))
 else
 some false)))))))
 else
 (bif (decide (x1 = 42)) then
 some true
 else
 (bif (decide (x1 = 63)) then
 some true
 else
 (bif (decide (x1 = 61)) then
 some true
 else
 (bif (decide (x1 = 43)) then
 some true
 else
 (bif (decide (x1 = 60)) then
 some true
 else
 (bif (!x2) then
 (bif (decide (48 ≤ x1)) then
 (bif (decide (x1 ≤ 57)) then
 some true
 else
 some (decide (x1 = 45)))
 else
 some (decide (x1 = 45)))
 else
 some false)))))))
def m_spec_NameValid_l1 (fuel : Nat) (x1 : ByteArray) (g3 : Int) : Option Bool :=
 match fuel with
 | 0 => none
 | fuel + 1 =>
 (bif (decide (g3 < (x1.size : Int))) then
 (bif (decide (g3 ≤ 12)) then
 (bidx x1 g3).bind fun v7 =>
 (m_spec_l1Letter fuel v7 (decide (g3 = 0))).bind fun v8 =>
 (bif (!v8) then
 some false
 else
 m_spec_NameValid_l1 fuel x1 (w64 (g3 + 1)))
 else
 (bif (decide (1 ≤ (x1.size : Int))) then
 some (decide ((x1.size : Int) ≤ 12))
 else
 some false))
 else
 (bif (decide (1 ≤ (x1.size : Int))) then
 some (decide ((x1.size : Int) ≤ 12))
 else
 some false))
def m_spec_NameValid (fuel : Nat) (x1 : ByteArray) : Option Bool :=
 (bif (decide (x1 = (⟨#[46, 46, 46]⟩ : ByteArray))) then
 some true
 else
 (bif (decide (x1 = (⟨#[95]⟩ : ByteArray))) then
 some true
 else
 m_spec_NameValid_l1 fuel x1 0))
def m_spec_l1Scopes_l1 (fuel : Nat) (x1 : (List Int)) (g1 : Int) : Option Bool :=
 match fuel with
 | 0 => none
 | fuel + 1 =>
 (bif (decide (g1 < (x1.length : Int))) then
 (bif (decide (g1 ≤ 24)) then
 (idx x1 g1).bind fun v5 =>
 (bif (decide (v5 < 1)) then
 some false
 else
 (idx x1 g1).bind fun v7 =>
 (bif (decide (99 < v7)) then
 some false
 else
 (bif (decide (0 < g1)) then
 (idx x1 g1).bind fun v10 =>
 (idx x1 (w64 (g1 - 1))).bind fun v11 =>
 (bif (decide (v10 ≤ v11)) then
 some false
 else
 m_spec_l1Scopes_l1 fuel x1 (w64 (g1 + 1)))
 else
 m_spec_l1Scopes_l1 fuel x1 (w64 (g1 + 1)))))
 else
 some (decide ((x1.length : Int) ≤ 24)))
 else
 some (decide ((x1.length : Int) ≤ 24)))
def m_spec_l1Scopes (fuel : Nat) (x1 : (List Int)) : Option Bool :=
 m_spec_l1Scopes_l1 fuel x1 0
mutual
def m_spec_l1Is (fuel : Nat) (x1 : Form) (x2 : Int) : Option Bool :=
 match fuel with
 | 0 => none
 | fuel + 1 =>
 (bif (decide (x2 = 0)) then
 some false
 else
 (bif (decide (x1.kind = 1)) then
 (m_spec_NameValid fuel x1.name).bind fun v3 =>
 (bif v3 then
 (bif (decide (x1.n = 0)) then
 (m_spec_l1Scopes fuel x1.scopes).bind fun v6 =>
 (bif v6 then
 some (decide ((x1.kids.length : Int) = 0))
 else
 some false)
 else
 some false)
 else
 some false)
 else
 (bif (decide (x1.kind = 2)) then
 (bif (decide (x1.name = (⟨#[]⟩ : ByteArray))) then
 (bif (decide (0 ≤ x1.n)) then
 (bif (decide (x1.n ≤ 999)) then
 (bif (decide ((x1.scopes.length : Int) = 0)) then
 some (decide ((x1.kids.length : Int) = 0))
 else
 some false)
 else
 some false)
 else
 some false)
 else
 some false)
 else
 (bif (decide (x1.kind ≠ 3)) then
 some false
 else
 (bif (decide (x1.name ≠ (⟨#[]⟩ : ByteArray))) then
 some false
 else
 (bif (decide (x1.n ≠ 0)) then
 some false
 else
 (bif (decide ((x1.scopes.length : Int) ≠ 0)) then
 some false
 else
 m_spec_l1Is_l1 fuel x1 x2 0)))))))
def m_spec_l1Is_l1 (fuel : Nat) (x1 : Form) (x2 : Int) (g17 : Int) : Option Bool :=
 match fuel with
 | 0 => none
 | fuel + 1 =>
 (bif (decide (g17 < (x1.kids.length : Int))) then
 (idx x1.kids g17).bind fun v21 =>
 (m_spec_l1Is fuel v21 (w64 (x2 - 1))).bind fun v22 =>
 (bif (!v22) then
 some false
 else
 m_spec_l1Is_l1 fuel x1 x2 (g17 + 1))
 else
 some true)
end
mutual
def m_spec_l1Count (fuel : Nat) (x1 : Form) : Option Int :=
 match fuel with
 | 0 => none
 | fuel + 1 =>
 m_spec_l1Count_l1 fuel x1 1 0
def m_spec_l1Count_l1 (fuel : Nat) (x1 : Form) (g1 : Int) (g2 : Int) : Option Int :=
 match fuel with
 | 0 => none
 | fuel + 1 =>
 (bif (decide (g2 < (x1.kids.length : Int))) then
 (idx x1.kids g2).bind fun v6 =>
 (m_spec_l1Count fuel v6).bind fun v7 =>
 m_spec_l1Count_l1 fuel x1 (w64 (g1 + v7)) (g2 + 1)
 else
 some g1)
end
def m_spec_FormValid (fuel : Nat) (x1 : Form) : Option Bool :=
 (m_spec_l1Is fuel x1 40).bind fun v1 =>
 (bif v1 then
 (m_spec_l1Count fuel x1).bind fun v3 =>
 some (decide (v3 ≤ 400))
 else
 some false)
def m_spec_l1Ints_l1 (fuel : Nat) (x1 : (List Int)) (x2 : (List Int)) (g2 : Int) : Option Bool :=
 match fuel with
 | 0 => none
 | fuel + 1 =>
 (bif (decide (g2 < (x1.length : Int))) then
 (idx x1 g2).bind fun v6 =>
 (idx x2 g2).bind fun v7 =>
 (bif (decide (v6 ≠ v7)) then
 some false
 else
 m_spec_l1Ints_l1 fuel x1 x2 (g2 + 1))
 else
 some true)
def m_spec_l1Ints (fuel : Nat) (x1 : (List Int)) (x2 : (List Int)) : Option Bool :=
 (bif (decide ((x1.length : Int) ≠ (x2.length : Int))) then
 some false
 else
 m_spec_l1Ints_l1 fuel x1 x2 0)
mutual
def m_spec_FormSame (fuel : Nat) (x1 : Form) (x2 : Form) : Option Bool :=
 match fuel with
 | 0 => none
 | fuel + 1 =>
 (bif (decide (x1.kind ≠ x2.kind)) then
 some false
 else
 (bif (decide (x1.name ≠ x2.name)) then
 some false
 else
 (bif (decide (x1.n ≠ x2.n)) then
 some false
 else
 (m_spec_l1Ints fuel x1.scopes x2.scopes).bind fun v4 =>
 (bif (!v4) then
 some false
 else
 (bif (decide ((x1.kids.length : Int) ≠ (x2.kids.length : Int))) then
 some false
 else
 m_spec_FormSame_l1 fuel x1 x2 0)))))
def m_spec_FormSame_l1 (fuel : Nat) (x1 : Form) (x2 : Form) (g7 : Int) : Option Bool :=
 match fuel with
 | 0 => none
 | fuel + 1 =>
 (bif (decide (g7 < (x1.kids.length : Int))) then
 (idx x1.kids g7).bind fun v11 =>
 (idx x2.kids g7).bind fun v12 =>
 (m_spec_FormSame fuel v11 v12).bind fun v13 =>
 (bif (!v13) then
 some false
 else
 m_spec_FormSame_l1 fuel x1 x2 (g7 + 1))
 else
 some true)
end
def m_strings_IndexByte (fuel : Nat) (x1 : ByteArray) (x2 : Int) : Option Int :=
 some (Lib.indexByte x1.data.toList x2.toNat.toUInt8)
def m_impl_within (fuel : Nat) (x1 : Int) (x2 : Int) (x3 : Int) : Option Bool :=
 (bif (decide (x2 ≤ x1)) then
 some (decide (x1 ≤ x3))
 else
 some false)
def m_impl_NameValid_l1 (fuel : Nat) (x1 : ByteArray) (g3 : Int) : Option Bool :=
 match fuel with
 | 0 => none
 | fuel + 1 =>
 (bif (decide (g3 < (x1.size : Int))) then
 (bidx x1 g3).bind fun v6 =>
 (bif (decide (97 ≤ v6)) then
 (bif (decide (v6 ≤ 122)) then
 m_impl_NameValid_l1 fuel x1 (w64 (g3 + 1))
 else
 (m_strings_IndexByte fuel (⟨#[42, 63, 61, 43, 60]⟩ : ByteArray) v6).bind fun v9 =>
 (bif (decide (0 ≤ v9)) then
 m_impl_NameValid_l1 fuel x1 (w64 (g3 + 1))
 else
 (bif (decide (0 < g3)) then
 (bif (decide (48 ≤ v6)) then
 (bif (decide (v6 ≤ 57)) then
 m_impl_NameValid_l1 fuel x1 (w64 (g3 + 1))
 else
 (bif (decide (v6 = 45)) then
 m_impl_NameValid_l1 fuel x1 (w64 (g3 + 1))
 else
 some false))
 else
 (bif (decide (v6 = 45)) then
 m_impl_NameValid_l1 fuel x1 (w64 (g3 + 1))
 else
 some false))
 else
 some false)))
 else
 (m_strings_IndexByte fuel (⟨#[42, 63, 61, 43, 60]⟩ : ByteArray) v6).bind fun v16 =>
 (bif (decide (0 ≤ v16)) then
 m_impl_NameValid_l1 fuel x1 (w64 (g3 + 1))
 else
 (bif (decide (0 < g3)) then
 (bif (decide (48 ≤ v6)) then
 (bif (decide (v6 ≤ 57)) then
 m_impl_NameValid_l1 fuel x1 (w64 (g3 + 1))
 else
 (bif (decide (v6 = 45)) then
 m_impl_NameValid_l1 fuel x1 (w64 (g3 + 1))
 else
 some false))
 else
 (bif (decide (v6 = 45)) then
 m_impl_NameValid_l1 fuel x1 (w64 (g3 + 1))
 else
 some false))
 else
 some false)))
 else
 (m_impl_within fuel (x1.size : Int) 1 12).bind fun v23 =>
 some v23)
def m_impl_NameValid (fuel : Nat) (x1 : ByteArray) : Option Bool :=
 (bif (decide (x1 = (⟨#[46, 46, 46]⟩ : ByteArray))) then
 some true
 else
 (bif (decide (x1 = (⟨#[95]⟩ : ByteArray))) then
 some true
 else
 m_impl_NameValid_l1 fuel x1 0))
def m_impl_scopesOk_l1 (fuel : Nat) (x1 : (List Int)) (g1 : Int) : Option Bool :=
 match fuel with
 | 0 => none
 | fuel + 1 =>
 (bif (decide (g1 < (x1.length : Int))) then
 (idx x1 g1).bind fun v5 =>
 (m_impl_within fuel v5 1 99).bind fun v6 =>
 (bif (!v6) then
 some false
 else
 (bif (decide (0 < g1)) then
 (idx x1 (w64 (g1 - 1))).bind fun v9 =>
 (bif (decide (v5 ≤ v9)) then
 some false
 else
 m_impl_scopesOk_l1 fuel x1 (g1 + 1))
 else
 m_impl_scopesOk_l1 fuel x1 (g1 + 1)))
 else
 some (decide ((x1.length : Int) ≤ 24)))
def m_impl_scopesOk (fuel : Nat) (x1 : (List Int)) : Option Bool :=
 m_impl_scopesOk_l1 fuel x1 0
mutual
def m_impl_formOk (fuel : Nat) (x1 : Form) (x2 : Int) (o1 : Int) : Option (Bool × Int) :=
 match fuel with
 | 0 => none
 | fuel + 1 =>
 (bif (decide ((w64 (o1 - 1)) < 0)) then
 some (false, (w64 (o1 - 1)))
 else
 (bif (decide (40 < x2)) then
 some (false, (w64 (o1 - 1)))
 else
 (bif (decide (x1.kind = 1)) then
 (m_impl_NameValid fuel x1.name).bind fun v4 =>
 (bif v4 then
 (bif (decide (x1.n = 0)) then
 (m_impl_scopesOk fuel x1.scopes).bind fun v7 =>
 (bif v7 then
 some ((decide ((x1.kids.length : Int) = 0)), (w64 (o1 - 1)))
 else
 some (false, (w64 (o1 - 1))))
 else
 some (false, (w64 (o1 - 1))))
 else
 some (false, (w64 (o1 - 1))))
 else
 (bif (decide (x1.kind = 2)) then
 (bif (decide (x1.name = (⟨#[]⟩ : ByteArray))) then
 (m_impl_within fuel x1.n 0 999).bind fun v11 =>
 (bif v11 then
 (bif (decide ((x1.scopes.length : Int) = 0)) then
 some ((decide ((x1.kids.length : Int) = 0)), (w64 (o1 - 1)))
 else
 some (false, (w64 (o1 - 1))))
 else
 some (false, (w64 (o1 - 1))))
 else
 some (false, (w64 (o1 - 1))))
 else
 (bif (decide (x1.kind = 3)) then
 (bif (decide (x1.name ≠ (⟨#[]⟩ : ByteArray))) then
 some (false, (w64 (o1 - 1)))
 else
 (bif (decide (x1.n ≠ 0)) then
 some (false, (w64 (o1 - 1)))
 else
 (bif (decide (0 < (x1.scopes.length : Int))) then
 some (false, (w64 (o1 - 1)))
 else
 m_impl_formOk_l1 fuel x1 x2 0 (w64 (o1 - 1)))))
 else
 some (false, (w64 (o1 - 1))))))))
def m_impl_formOk_l1 (fuel : Nat) (x1 : Form) (x2 : Int) (g19 : Int) (g20 : Int) : Option (Bool × Int) :=
 match fuel with
 | 0 => none
 | fuel + 1 =>
 (bif (decide (g19 < (x1.kids.length : Int))) then
 (idx x1.kids g19).bind fun v24 =>
 (m_impl_formOk fuel v24 (w64 (x2 + 1)) g20).bind fun v25 =>
 (bif (!v25.1) then
 some (false, v25.2)
 else
 m_impl_formOk_l1 fuel x1 x2 (g19 + 1) v25.2)
 else
 some (true, g20))
end
def m_impl_FormValid (fuel : Nat) (x1 : Form) : Option Bool :=
 (m_impl_formOk fuel x1 1 400).bind fun v1 =>
 some v1.1
def m_slices_Equal_int_l1 (fuel : Nat) (x1 : (List Int)) (x2 : (List Int)) (g2 : Int) : Option Bool :=
 match fuel with
 | 0 => none
 | fuel + 1 =>
 (bif (decide (g2 < (x1.length : Int))) then
 (idx x1 g2).bind fun v6 =>
 (idx x2 g2).bind fun v7 =>
 (bif (decide (v6 ≠ v7)) then
 some false
 else
 m_slices_Equal_int_l1 fuel x1 x2 (g2 + 1))
 else
 some true)
def m_slices_Equal_int (fuel : Nat) (x1 : (List Int)) (x2 : (List Int)) : Option Bool :=
 (bif (decide ((x1.length : Int) ≠ (x2.length : Int))) then
 some false
 else
 m_slices_Equal_int_l1 fuel x1 x2 0)
mutual
def m_impl_FormSame (fuel : Nat) (x1 : Form) (x2 : Form) : Option Bool :=
 match fuel with
 | 0 => none
 | fuel + 1 =>
 (bif (decide (x1.kind = x2.kind)) then
 (bif (decide (x1.name = x2.name)) then
 (bif (decide (x1.n = x2.n)) then
 (m_slices_Equal_int fuel x1.scopes x2.scopes).bind fun v4 =>
 (bif v4 then
 (m_slices_EqualFunc_Form_FormSame fuel x1.kids x2.kids).bind fun v6 =>
 some v6
 else
 some false)
 else
 some false)
 else
 some false)
 else
 some false)
def m_slices_EqualFunc_Form_FormSame (fuel : Nat) (x1 : (List Form)) (x2 : (List Form)) : Option Bool :=
 match fuel with
 | 0 => none
 | fuel + 1 =>
 (bif (decide ((x1.length : Int) ≠ (x2.length : Int))) then
 some false
 else
 m_slices_EqualFunc_Form_FormSame_l1 fuel x1 x2 0)
def m_slices_EqualFunc_Form_FormSame_l1 (fuel : Nat) (x1 : (List Form)) (x2 : (List Form)) (g2 : Int) : Option Bool :=
 match fuel with
 | 0 => none
 | fuel + 1 =>
 (bif (decide (g2 < (x1.length : Int))) then
 (idx x1 g2).bind fun v6 =>
 (idx x2 g2).bind fun v7 =>
 (m_impl_FormSame fuel v6 v7).bind fun v8 =>
 (bif (!v8) then
 some false
 else
 m_slices_EqualFunc_Form_FormSame_l1 fuel x1 x2 (g2 + 1))
 else
 some true)
end
def m_laws_eqIntS_l1 (fuel : Nat) (x1 : (List Int)) (x2 : (List Int)) (g2 : Int) : Option Bool :=
 match fuel with
 | 0 => none
 | fuel + 1 =>
 (bif (decide (g2 < (x1.length : Int))) then
 (idx x1 g2).bind fun v6 =>
 (idx x2 g2).bind fun v7 =>
 (bif (decide (v6 ≠ v7)) then
 some false
 else
 m_laws_eqIntS_l1 fuel x1 x2 (g2 + 1))
 else
 some true)
def m_laws_eqIntS (fuel : Nat) (x1 : (List Int)) (x2 : (List Int)) : Option Bool :=
 (bif (decide ((x1.length : Int) ≠ (x2.length : Int))) then
 some false
 else
 m_laws_eqIntS_l1 fuel x1 x2 0)
mutual
def m_laws_eqForm (fuel : Nat) (x1 : Form) (x2 : Form) : Option Bool :=
 match fuel with
 | 0 => none
 | fuel + 1 =>
 (bif (decide (x1.kind ≠ x2.kind)) then
 some false
 else
 (bif (decide (x1.name ≠ x2.name)) then
 some false
 else
 (bif (decide (x1.n ≠ x2.n)) then
 some false
 else
 (m_laws_eqIntS fuel x1.scopes x2.scopes).bind fun v4 =>
 (bif (!v4) then
 some false
 else
 (m_laws_eqFormS fuel x1.kids x2.kids).bind fun v6 =>
 (bif (!v6) then
 some false
 else
 some true)))))
def m_laws_eqFormS (fuel : Nat) (x1 : (List Form)) (x2 : (List Form)) : Option Bool :=
 match fuel with
 | 0 => none
 | fuel + 1 =>
 (bif (decide ((x1.length : Int) ≠ (x2.length : Int))) then
 some false
 else
 m_laws_eqFormS_l1 fuel x1 x2 0)
def m_laws_eqFormS_l1 (fuel : Nat) (x1 : (List Form)) (x2 : (List Form)) (g2 : Int) : Option Bool :=
 match fuel with
 | 0 => none
 | fuel + 1 =>
 (bif (decide (g2 < (x1.length : Int))) then
 (idx x1 g2).bind fun v6 =>
 (idx x2 g2).bind fun v7 =>
 (m_laws_eqForm fuel v6 v7).bind fun v8 =>
 (bif (!v8) then
 some false
 else
 m_laws_eqFormS_l1 fuel x1 x2 (g2 + 1))
 else
 some true)
end
mutual
def m_spec_l1Copy (fuel : Nat) (x1 : Form) : Option Form :=
 match fuel with
 | 0 => none
 | fuel + 1 =>
 chk (decide ((([] : List Int).length + x1.scopes.length) * 8 ≤ 140737488355328)) <|
 m_spec_l1Copy_l1 fuel x1 0 ([] : List Form)
def m_spec_l1Copy_l1 (fuel : Nat) (x1 : Form) (g2 : Int) (g3 : (List Form)) : Option Form :=
 match fuel with
 | 0 => none
 | fuel + 1 =>
 (bif (decide (g2 < (x1.kids.length : Int))) then
 (idx x1.kids g2).bind fun v7 =>
 (m_spec_l1Copy fuel v7).bind fun v8 =>
 chk (decide ((g3.length + [v8].length) * 80 ≤ 140737488355328)) <|
 m_spec_l1Copy_l1 fuel x1 (g2 + 1) (g3 ++ [v8])
 else
 some (Form.mk x1.kind x1.name x1.n (([] : List Int) ++ x1.scopes) g3))
end
def m_slices_Clone_int (fuel : Nat) (x1 : (List Int)) : Option (List Int) :=
 chk (decide ((([] : List Int).length + x1.length) * 8 ≤ 140737488355328)) <|
 some (([] : List Int) ++ x1)
mutual
def m_impl_copyForm (fuel : Nat) (x1 : Form) : Option Form :=
 match fuel with
 | 0 => none
 | fuel + 1 =>
 (m_slices_Clone_int fuel x1.scopes).bind fun v1 =>
 m_impl_copyForm_l1 fuel x1 v1 0 ([] : List Form)
def m_impl_copyForm_l1 (fuel : Nat) (x1 : Form) (v1 : (List Int)) (g2 : Int) (g3 : (List Form)) : Option Form :=
 match fuel with
 | 0 => none
 | fuel + 1 =>
 (bif (decide (g2 < (x1.kids.length : Int))) then
 (idx x1.kids g2).bind fun v7 =>
 (m_impl_copyForm fuel v7).bind fun v8 =>
 chk (decide ((g3.length + [v8].length) * 80 ≤ 140737488355328)) <|
 m_impl_copyForm_l1 fuel x1 v1 (g2 + 1) (g3 ++ [v8])
 else
 some (Form.mk x1.kind x1.name x1.n v1 g3))
end
def m_spec_l2Has_l1 (fuel : Nat) (x1 : (List Int)) (x2 : Int) (g1 : Int) : Option Bool :=
 match fuel with
 | 0 => none
 | fuel + 1 =>
 (bif (decide (g1 < (x1.length : Int))) then
 (idx x1 g1).bind fun v5 =>
 (bif (decide (v5 = x2)) then
 some true
 else
 m_spec_l2Has_l1 fuel x1 x2 (g1 + 1))
 else
 some false)
def m_spec_l2Has (fuel : Nat) (x1 : (List Int)) (x2 : Int) : Option Bool :=
 m_spec_l2Has_l1 fuel x1 x2 0
def m_slices_Index_int_l1 (fuel : Nat) (x1 : (List Int)) (x2 : Int) (g1 : Int) : Option Int :=
 match fuel with
 | 0 => none
 | fuel + 1 =>
 (bif (decide (g1 < (x1.length : Int))) then
 (idx x1 g1).bind fun v5 =>
 (bif (decide (x2 = v5)) then
 some g1
 else
 m_slices_Index_int_l1 fuel x1 x2 (g1 + 1))
 else
 some (-1))
def m_slices_Index_int (fuel : Nat) (x1 : (List Int)) (x2 : Int) : Option Int :=
 m_slices_Index_int_l1 fuel x1 x2 0
def m_slices_Contains_int (fuel : Nat) (x1 : (List Int)) (x2 : Int) : Option Bool :=
 (m_slices_Index_int fuel x1 x2).bind fun v1 =>
 some (decide (0 ≤ v1))
mutual
def m_laws_szCore (fuel : Nat) (x1 : Core) (x2 : Int) : Option Int :=
 match fuel with
 | 0 => none
 | fuel + 1 =>
 (bif (decide ((w64 (x2 - (x1.name.size : Int))) < 0)) then
 some (-1)
 else
 (m_laws_szIntS fuel x1.ids (w64 (x2 - (x1.name.size : Int)))).bind fun v2 =>
 (bif (decide (v2 < 0)) then
 some (-1)
 else
 (m_laws_szForm fuel x1.data v2).bind fun v4 =>
 (bif (decide (v4 < 0)) then
 some (-1)
 else
 (m_laws_szCoreS fuel x1.kids v4).bind fun v6 =>
 (bif (decide (v6 < 0)) then
 some (-1)
 else
 some v6))))
def m_laws_szCoreS (fuel : Nat) (x1 : (List Core)) (x2 : Int) : Option Int :=
 match fuel with
 | 0 => none
 | fuel + 1 =>
 (bif (decide ((w64 (x2 - (x1.length : Int))) < 0)) then
 some (-1)
 else
 m_laws_szCoreS_l1 fuel x1 (w64 (x2 - (x1.length : Int))) 0)
def m_laws_szCoreS_l1 (fuel : Nat) (x1 : (List Core)) (g2 : Int) (g3 : Int) : Option Int :=
 match fuel with
 | 0 => none
 | fuel + 1 =>
 (bif (decide (g3 < (x1.length : Int))) then
 (idx x1 g3).bind fun v7 =>
 (m_laws_szCore fuel v7 g2).bind fun v8 =>
 (bif (decide (v8 < 0)) then
 some (-1)
 else
 m_laws_szCoreS_l1 fuel x1 v8 (g3 + 1))
 else
 some g2)
end
mutual
def m_laws_toCore (fuel : Nat) (x1 : Core) : Option Core :=
 match fuel with
 | 0 => none
 | fuel + 1 =>
 (m_laws_toIntS fuel x1.ids).bind fun v1 =>
 (m_laws_toForm fuel x1.data).bind fun v2 =>
 (m_laws_toCoreS fuel x1.kids).bind fun v3 =>
 some (Core.mk x1.kind x1.id x1.name x1.n v1 v2 v3)
def m_laws_toCoreS (fuel : Nat) (x1 : (List Core)) : Option (List Core) :=
 match fuel with
 | 0 => none
 | fuel + 1 =>
 chk (decide (0 ≤ (x1.length : Int)) && decide ((x1.length : Int).toNat * 168 ≤ 140737488355328)) <|
 m_laws_toCoreS_l1 fuel x1 0 (List.replicate (x1.length : Int).toNat (Core.mk 0 0 (⟨#[]⟩ : ByteArray) 0 ([] : List Int) (Form.mk 0 (⟨#[]⟩ : ByteArray) 0 ([] : List Int) ([] : List Form)) ([] : List Core)))
def m_laws_toCoreS_l1 (fuel : Nat) (x1 : (List Core)) (g2 : Int) (g3 : (List Core)) : Option (List Core) :=
 match fuel with
 | 0 => none
 | fuel + 1 =>
 (bif (decide (g2 < (x1.length : Int))) then
 (idx x1 g2).bind fun v7 =>
 (m_laws_toCore fuel v7).bind fun v8 =>
 (idx g3 g2).bind fun v9 =>
 m_laws_toCoreS_l1 fuel x1 (g2 + 1) (g3.set g2.toNat v8)
 else
 some g3)
end
def m_spec_l6Kids_j1 (fuel : Nat) (x1 : Int) (x2 : Int) (g4 : Bool) : Option Bool :=
 match fuel with
 | 0 => none
 | fuel + 1 =>
 (bif g4 then
 some (decide (x2 = 0))
 else
 (bif (decide (x1 = 5)) then
 some (decide (x2 = 1))
 else
 (bif (decide (x1 = 6)) then
 some (decide (1 ≤ x2))
 else
 (bif (decide (x1 = 7)) then
 some (decide (x2 = 3))
 else
 some false))))
def m_spec_l6Kids (fuel : Nat) (x1 : Int) (x2 : Int) : Option Bool :=
 (bif (decide (x1 = 1)) then
 m_spec_l6Kids_j1 fuel x1 x2 (decide (x1 = 1))
 else
 (bif (decide (x1 = 2)) then
 m_spec_l6Kids_j1 fuel x1 x2 (decide (x1 = 2))
 else
 (bif (decide (x1 = 3)) then
 m_spec_l6Kids_j1 fuel x1 x2 (decide (x1 = 3))
 else
 m_spec_l6Kids_j1 fuel x1 x2 (decide (x1 = 4)))))
mutual
def m_spec_StripForm (fuel : Nat) (x1 : Form) : Option Form :=
 match fuel with
 | 0 => none
 | fuel + 1 =>
 m_spec_StripForm_l1 fuel x1 0 ([] : List Form)
def m_spec_StripForm_l1 (fuel : Nat) (x1 : Form) (g1 : Int) (g2 : (List Form)) : Option Form :=
 match fuel with
 | 0 => none
 | fuel + 1 =>
 (bif (decide (g1 < (x1.kids.length : Int))) then
 (idx x1.kids g1).bind fun v6 =>
 (m_spec_StripForm fuel v6).bind fun v7 =>
 chk (decide ((g2.length + [v7].length) * 80 ≤ 140737488355328)) <|
 m_spec_StripForm_l1 fuel x1 (g1 + 1) (g2 ++ [v7])
 else
 some (Form.mk x1.kind x1.name x1.n ([] : List Int) g2))
end
mutual
def m_spec_l6Fields_j4 (fuel : Nat) (x1 : Core) (g35 : Bool) : Option Bool :=
 match fuel with
 | 0 => none
 | fuel + 1 =>
 (bif g35 then
 some false
 else
 (bif (decide (x1.kind = 5)) then
 some true
 else
 some (decide ((x1.ids.length : Int) = 0))))
def m_spec_l6Fields_j3 (fuel : Nat) (x1 : Core) : Option Bool :=
 match fuel with
 | 0 => none
 | fuel + 1 =>
 (bif (decide (x1.kind = 4)) then
 (m_spec_FormValid fuel x1.data).bind fun v26 =>
 (bif (!v26) then
 m_spec_l6Fields_j4 fuel x1 true
 else
 (m_spec_StripForm fuel x1.data).bind fun v28 =>
 (m_spec_FormSame fuel v28 x1.data).bind fun v29 =>
 (bif (!v29) then
 m_spec_l6Fields_j4 fuel x1 true
 else
 (bif (decide (x1.kind ≠ 4)) then
 (m_spec_FormSame fuel x1.data (Form.mk 0 (⟨#[]⟩ : ByteArray) 0 ([] : List Int) ([] : List Form))).bind fun v32 =>
 m_spec_l6Fields_j4 fuel x1 (!v32)
 else
 m_spec_l6Fields_j4 fuel x1 false)))
 else
 (bif (decide (x1.kind ≠ 4)) then
 (m_spec_FormSame fuel x1.data (Form.mk 0 (⟨#[]⟩ : ByteArray) 0 ([] : List Int) ([] : List Form))).bind fun v34 =>
 m_spec_l6Fields_j4 fuel x1 (!v34)
 else
 m_spec_l6Fields_j4 fuel x1 false))
def m_spec_l6Fields_j2 (fuel : Nat) (x1 : Core) : Option Bool :=
 match fuel with
 | 0 => none
 | fuel + 1 =>
 (bif (decide (x1.kind = 3)) then
 (bif (decide (x1.n < 0)) then
 some false
 else
 (bif (decide (999 < x1.n)) then
 some false
 else
 (bif (decide (x1.kind ≠ 3)) then
 (bif (decide (x1.n ≠ 0)) then
 some false
 else
 m_spec_l6Fields_j3 fuel x1 )
 else
 m_spec_l6Fields_j3 fuel x1 )))
 else
 (bif (decide (x1.kind ≠ 3)) then
 (bif (decide (x1.n ≠ 0)) then
 some false
 else
 m_spec_l6Fields_j3 fuel x1 )
 else
 m_spec_l6Fields_j3 fuel x1 ))
def m_spec_l6Fields_j1 (fuel : Nat) (x1 : Core) : Option Bool :=
 match fuel with
 | 0 => none
 | fuel + 1 =>
 (bif (decide (x1.kind = 2)) then
 (m_spec_NameValid fuel x1.name).bind fun v10 =>
 (bif (!v10) then
 some false
 else
 (bif (decide (x1.kind ≠ 2)) then
 (bif (decide (x1.name ≠ (⟨#[]⟩ : ByteArray))) then
 some false
 else
 m_spec_l6Fields_j2 fuel x1 )
 else
 m_spec_l6Fields_j2 fuel x1 ))
 else
 (bif (decide (x1.kind ≠ 2)) then
 (bif (decide (x1.name ≠ (⟨#[]⟩ : ByteArray))) then
 some false
 else
 m_spec_l6Fields_j2 fuel x1 )
 else
 m_spec_l6Fields_j2 fuel x1 ))
end
def m_spec_l6Fields (fuel : Nat) (x1 : Core) : Option Bool :=
 (bif (decide (x1.kind = 1)) then
 (bif (decide (x1.id < 1)) then
 some false
 else
 (bif (decide (999 < x1.id)) then
 some false
 else
 (bif (decide (x1.kind ≠ 1)) then
 (bif (decide (x1.id ≠ 0)) then
 some false
 else
 m_spec_l6Fields_j1 fuel x1 )
 else
 m_spec_l6Fields_j1 fuel x1 )))
 else
 (bif (decide (x1.kind ≠ 1)) then
 (bif (decide (x1.id ≠ 0)) then
 some false
 else
 m_spec_l6Fields_j1 fuel x1 )
 else
 m_spec_l6Fields_j1 fuel x1 ))
mutual
def m_spec_l6Is (fuel : Nat) (x1 : Core) (x2 : (List Int)) (x3 : Int) : Option Bool :=
 match fuel with
 | 0 => none
 | fuel + 1 =>
 (bif (decide (x3 = 0)) then
 some false
 else
 (m_spec_l6Kids fuel x1.kind (x1.kids.length : Int)).bind fun v2 =>
 (bif (!v2) then
 some false
 else
 (m_spec_l6Fields fuel x1).bind fun v4 =>
 (bif (!v4) then
 some false
 else
 (bif (decide (x1.kind = 1)) then
 (m_spec_l2Has fuel x2 x1.id).bind fun v7 =>
 (bif (!v7) then
 some false
 else
 m_spec_l6Is_j1 fuel x1 x2 x3 )
 else
 m_spec_l6Is_j1 fuel x1 x2 x3 ))))
def m_spec_l6Is_j4 (fuel : Nat) (x1 : Core) (x3 : Int) (g10 : (List Int)) (g11 : Int) (g21 : Bool) : Option Bool :=
 match fuel with
 | 0 => none
 | fuel + 1 =>
 (bif g21 then
 some false
 else
 chk (decide ((([] : List Int).length + g10.length) * 8 ≤ 140737488355328)) <|
 (idx x1.ids g11).bind fun v25 =>
 chk (decide (((([] : List Int) ++ g10).length + [v25].length) * 8 ≤ 140737488355328)) <|
 m_spec_l6Is_l3 fuel x1 x3 ((([] : List Int) ++ g10) ++ [v25]) (g11 + 1))
def m_spec_l6Is_l3 (fuel : Nat) (x1 : Core) (x3 : Int) (g10 : (List Int)) (g11 : Int) : Option Bool :=
 match fuel with
 | 0 => none
 | fuel + 1 =>
 (bif (decide (g11 < (x1.ids.length : Int))) then
 (idx x1.ids g11).bind fun v15 =>
 (bif (decide (v15 < 1)) then
 m_spec_l6Is_j4 fuel x1 x3 g10 g11 true
 else
 (idx x1.ids g11).bind fun v17 =>
 (bif (decide (999 < v17)) then
 m_spec_l6Is_j4 fuel x1 x3 g10 g11 true
 else
 (idx x1.ids g11).bind fun v19 =>
 (m_spec_l2Has fuel g10 v19).bind fun v20 =>
 m_spec_l6Is_j4 fuel x1 x3 g10 g11 v20))
 else
 m_spec_l6Is_j2 fuel x1 x3 g10)
def m_spec_l6Is_l5 (fuel : Nat) (x1 : Core) (x3 : Int) (g27 : (List Int)) (g29 : Int) : Option Bool :=
 match fuel with
 | 0 => none
 | fuel + 1 =>
 (bif (decide (g29 < (x1.kids.length : Int))) then
 (idx x1.kids g29).bind fun v33 =>
 (m_spec_l6Is fuel v33 g27 (w64 (x3 - 1))).bind fun v34 =>
 (bif (!v34) then
 some false
 else
 m_spec_l6Is_l5 fuel x1 x3 g27 (g29 + 1))
 else
 some true)
def m_spec_l6Is_j2 (fuel : Nat) (x1 : Core) (x3 : Int) (g27 : (List Int)) : Option Bool :=
 match fuel with
 | 0 => none
 | fuel + 1 =>
 m_spec_l6Is_l5 fuel x1 x3 g27 0
def m_spec_l6Is_j1 (fuel : Nat) (x1 : Core) (x2 : (List Int)) (x3 : Int) : Option Bool :=
 match fuel with
 | 0 => none
 | fuel + 1 =>
 m_spec_l6Is_l3 fuel x1 x3 x2 0
end
mutual
def m_spec_l6Count (fuel : Nat) (x1 : Core) : Option Int :=
 match fuel with
 | 0 => none
 | fuel + 1 =>
 m_spec_l6Count_l1 fuel x1 1 0
def m_spec_l6Count_l1 (fuel : Nat) (x1 : Core) (g1 : Int) (g2 : Int) : Option Int :=
 match fuel with
 | 0 => none
 | fuel + 1 =>
 (bif (decide (g2 < (x1.kids.length : Int))) then
 (idx x1.kids g2).bind fun v6 =>
 (m_spec_l6Count fuel v6).bind fun v7 =>
 m_spec_l6Count_l1 fuel x1 (w64 (g1 + v7)) (g2 + 1)
 else
 some g1)
end
def m_spec_CoreValid (fuel : Nat) (x1 : Core) : Option Bool :=
 (m_spec_l6Is fuel x1 ([] : List Int) 120).bind fun v1 =>
 (bif v1 then
 (m_spec_l6Count fuel x1).bind fun v3 =>
 some (decide (v3 ≤ 600))
 else
 some false)
def m_impl_ScopesOf_1 (fuel : Nat) (x1 : Form) (o1 : (List Int)) : Option (List Int) :=
 chk (decide ((o1.length + x1.scopes.length) * 8 ≤ 140737488355328)) <|
 some (o1 ++ x1.scopes)
mutual
def m_impl_eachForm_ScopesOf_1 (fuel : Nat) (x1 : Form) (o1 : (List Int)) : Option (List Int) :=
 match fuel with
 | 0 => none
 | fuel + 1 =>
 (m_impl_ScopesOf_1 fuel x1 o1).bind fun v1 =>
 m_impl_eachForm_ScopesOf_1_l1 fuel x1 0 v1
def m_impl_eachForm_ScopesOf_1_l1 (fuel : Nat) (x1 : Form) (g2 : Int) (g3 : (List Int)) : Option (List Int) :=
 match fuel with
 | 0 => none
 | fuel + 1 =>
 (bif (decide (g2 < (x1.kids.length : Int))) then
 (idx x1.kids g2).bind fun v7 =>
 (m_impl_eachForm_ScopesOf_1 fuel v7 g3).bind fun v8 =>
 m_impl_eachForm_ScopesOf_1_l1 fuel x1 (g2 + 1) v8
 else
 some g3)
end
def m_slices_Sort_int (fuel : Nat) (x1 : List Int) : Option (List Int) :=
 chk (decide (x1.length < 4611686018427387904)) <|
 some (x1.mergeSort fun x y => decide (x ≤ y))
def m_slices_Compact_int (fuel : Nat) (x1 : List Int) : Option (List Int) :=
 some (Lib.compact x1)
def m_impl_ScopesOf (fuel : Nat) (x1 : Form) : Option (List Int) :=
 (m_impl_FormValid fuel x1).bind fun v1 =>
 (bif (!v1) then
 some ([] : List Int)
 else
 (m_impl_eachForm_ScopesOf_1 fuel x1 ([] : List Int)).bind fun v3 =>
 (m_slices_Sort_int fuel v3).bind fun v4 =>
 (m_slices_Compact_int fuel v4).bind fun v5 =>
 some v5)
mutual
def m_impl_sameCore (fuel : Nat) (x1 : Core) (x2 : Core) : Option Bool :=
 match fuel with
 | 0 => none
 | fuel + 1 =>
 (bif (decide (x1.kind = x2.kind)) then
 (bif (decide (x1.id = x2.id)) then
 (bif (decide (x1.name = x2.name)) then
 (bif (decide (x1.n = x2.n)) then
 (m_slices_Equal_int fuel x1.ids x2.ids).bind fun v5 =>
 (bif v5 then
 (m_impl_FormSame fuel x1.data x2.data).bind fun v7 =>
 (bif v7 then
 (m_slices_EqualFunc_Core_sameCore fuel x1.kids x2.kids).bind fun v9 =>
 some v9
 else
 some false)
 else
 some false)
 else
 some false)
 else
 some false)
 else
 some false)
 else
 some false)
def m_slices_EqualFunc_Core_sameCore (fuel : Nat) (x1 : (List Core)) (x2 : (List Core)) : Option Bool :=
 match fuel with
 | 0 => none
 | fuel + 1 =>
 (bif (decide ((x1.length : Int) ≠ (x2.length : Int))) then
 some false
 else
 m_slices_EqualFunc_Core_sameCore_l1 fuel x1 x2 0)
def m_slices_EqualFunc_Core_sameCore_l1 (fuel : Nat) (x1 : (List Core)) (x2 : (List Core)) (g2 : Int) : Option Bool :=
 match fuel with
 | 0 => none
 | fuel + 1 =>
 (bif (decide (g2 < (x1.length : Int))) then
 (idx x1 g2).bind fun v6 =>
 (idx x2 g2).bind fun v7 =>
 (m_impl_sameCore fuel v6 v7).bind fun v8 =>
 (bif (!v8) then
 some false
 else
 m_slices_EqualFunc_Core_sameCore_l1 fuel x1 x2 (g2 + 1))
 else
 some true)
end
mutual
def m_impl_coreOk (fuel : Nat) (x1 : Core) (x2 : (List Int)) (x3 : Int) (o1 : Int) : Option (Bool × Int) :=
 match fuel with
 | 0 => none
 | fuel + 1 =>
 (bif (decide ((w64 (o1 - 1)) < 0)) then
 m_impl_coreOk_j1 fuel x1 x2 x3 o1 true
 else
 m_impl_coreOk_j1 fuel x1 x2 x3 o1 (decide (120 < x3)))
def m_impl_coreOk_l3 (fuel : Nat) (x1 : Core) (x3 : Int) (o1 : Int) (g24 : (List Int)) (g25 : Int) : Option (Bool × Int) :=
 match fuel with
 | 0 => none
 | fuel + 1 =>
 (bif (decide (g25 < (x1.ids.length : Int))) then
 (idx x1.ids g25).bind fun v29 =>
 (m_impl_within fuel v29 1 999).bind fun v30 =>
 (bif (!v30) then
 some (false, (w64 (o1 - 1)))
 else
 (m_slices_Contains_int fuel g24 v29).bind fun v32 =>
 (bif v32 then
 some (false, (w64 (o1 - 1)))
 else
 chk (decide ((g24.length + [v29].length) * 8 ≤ 140737488355328)) <|
 m_impl_coreOk_l3 fuel x1 x3 o1 (g24 ++ [v29]) (g25 + 1)))
 else
 m_impl_coreOk_j2 fuel x1 x3 o1 1 g24 0 (⟨#[]⟩ : ByteArray) 0 x1.ids 0 (⟨#[]⟩ : ByteArray) 0 ([] : List Int) ([] : List Form))
def m_impl_coreOk_l5 (fuel : Nat) (x1 : Core) (x3 : Int) (g38 : (List Int)) (g54 : Int) (g55 : Int) : Option (Bool × Int) :=
 match fuel with
 | 0 => none
 | fuel + 1 =>
 (bif (decide (g54 < (x1.kids.length : Int))) then
 (idx x1.kids g54).bind fun v59 =>
 (m_impl_coreOk fuel v59 g38 (w64 (x3 + 1)) g55).bind fun v60 =>
 (bif (!v60.1) then
 some (false, v60.2)
 else
 m_impl_coreOk_l5 fuel x1 x3 g38 (g54 + 1) v60.2)
 else
 some (true, g55))
def m_impl_coreOk_j4 (fuel : Nat) (x1 : Core) (x3 : Int) (o1 : Int) (g38 : (List Int)) (g51 : Bool) : Option (Bool × Int) :=
 match fuel with
 | 0 => none
 | fuel + 1 =>
 (bif g51 then
 some (false, (w64 (o1 - 1)))
 else
 m_impl_coreOk_l5 fuel x1 x3 g38 0 (w64 (o1 - 1)))
def m_impl_coreOk_j2 (fuel : Nat) (x1 : Core) (x3 : Int) (o1 : Int) (g37 : Int) (g38 : (List Int)) (g39 : Int) (g40 : ByteArray) (g41 : Int) (g42 : (List Int)) (g43 : Int) (g44 : ByteArray) (g45 : Int) (g46 : (List Int)) (g47 : (List Form)) : Option (Bool × Int) :=
 match fuel with
 | 0 => none
 | fuel + 1 =>
 (bif (decide ((x1.kids.length : Int) ≠ g37)) then
 m_impl_coreOk_j4 fuel x1 x3 o1 g38 true
 else
 (m_impl_sameCore fuel x1 (Core.mk x1.kind g39 g40 g41 g42 (Form.mk g43 g44 g45 g46 g47) x1.kids)).bind fun v50 =>
 m_impl_coreOk_j4 fuel x1 x3 o1 g38 (!v50))
def m_impl_coreOk_j1 (fuel : Nat) (x1 : Core) (x2 : (List Int)) (x3 : Int) (o1 : Int) (g2 : Bool) : Option (Bool × Int) :=
 match fuel with
 | 0 => none
 | fuel + 1 =>
 (bif g2 then
 some (false, (w64 (o1 - 1)))
 else
 (bif (decide (x1.kind = 1)) then
 (m_impl_within fuel x1.id 1 999).bind fun v6 =>
 (bif (!v6) then
 some (false, (w64 (o1 - 1)))
 else
 (m_slices_Contains_int fuel x2 x1.id).bind fun v8 =>
 (bif (!v8) then
 some (false, (w64 (o1 - 1)))
 else
 m_impl_coreOk_j2 fuel x1 x3 o1 0 x2 x1.id (⟨#[]⟩ : ByteArray) 0 ([] : List Int) 0 (⟨#[]⟩ : ByteArray) 0 ([] : List Int) ([] : List Form)))
 else
 (bif (decide (x1.kind = 2)) then
 (m_impl_NameValid fuel x1.name).bind fun v11 =>
 (bif (!v11) then
 some (false, (w64 (o1 - 1)))
 else
 m_impl_coreOk_j2 fuel x1 x3 o1 0 x2 0 x1.name 0 ([] : List Int) 0 (⟨#[]⟩ : ByteArray) 0 ([] : List Int) ([] : List Form))
 else
 (bif (decide (x1.kind = 3)) then
 (m_impl_within fuel x1.n 0 999).bind fun v14 =>
 (bif (!v14) then
 some (false, (w64 (o1 - 1)))
 else
 m_impl_coreOk_j2 fuel x1 x3 o1 0 x2 0 (⟨#[]⟩ : ByteArray) x1.n ([] : List Int) 0 (⟨#[]⟩ : ByteArray) 0 ([] : List Int) ([] : List Form))
 else
 (bif (decide (x1.kind = 4)) then
 (m_impl_FormValid fuel x1.data).bind fun v17 =>
 (bif (!v17) then
 some (false, (w64 (o1 - 1)))
 else
 (m_impl_ScopesOf fuel x1.data).bind fun v19 =>
 (bif (decide (0 < (v19.length : Int))) then
 some (false, (w64 (o1 - 1)))
 else
 m_impl_coreOk_j2 fuel x1 x3 o1 0 x2 0 (⟨#[]⟩ : ByteArray) 0 ([] : List Int) x1.data.kind x1.data.name x1.data.n x1.data.scopes x1.data.kids))
 else
 (bif (decide (x1.kind = 5)) then
 (m_slices_Clone_int fuel x2).bind fun v23 =>
 m_impl_coreOk_l3 fuel x1 x3 o1 v23 0
 else
 (bif (decide (x1.kind = 6)) then
 m_impl_coreOk_j2 fuel x1 x3 o1 (if (x1.kids.length : Int) > 1 then (x1.kids.length : Int) else 1) x2 0 (⟨#[]⟩ : ByteArray) 0 ([] : List Int) 0 (⟨#[]⟩ : ByteArray) 0 ([] : List Int) ([] : List Form)
 else
 (bif (decide (x1.kind = 7)) then
 m_impl_coreOk_j2 fuel x1 x3 o1 3 x2 0 (⟨#[]⟩ : ByteArray) 0 ([] : List Int) 0 (⟨#[]⟩ : ByteArray) 0 ([] : List Int) ([] : List Form)
 else
 some (false, (w64 (o1 - 1)))))))))))
end
def m_impl_CoreValid (fuel : Nat) (x1 : Core) : Option Bool :=
 (m_impl_coreOk fuel x1 ([] : List Int) 1 600).bind fun v1 =>
 some v1.1
mutual
def m_laws_eqCore (fuel : Nat) (x1 : Core) (x2 : Core) : Option Bool :=
 match fuel with
 | 0 => none
 | fuel + 1 =>
 (bif (decide (x1.kind ≠ x2.kind)) then
 some false
 else
 (bif (decide (x1.id ≠ x2.id)) then
 some false
 else
 (bif (decide (x1.name ≠ x2.name)) then
 some false
 else
 (bif (decide (x1.n ≠ x2.n)) then
 some false
 else
 (m_laws_eqIntS fuel x1.ids x2.ids).bind fun v5 =>
 (bif (!v5) then
 some false
 else
 (m_laws_eqForm fuel x1.data x2.data).bind fun v7 =>
 (bif (!v7) then
 some false
 else
 (m_laws_eqCoreS fuel x1.kids x2.kids).bind fun v9 =>
 (bif (!v9) then
 some false
 else
 some true)))))))
def m_laws_eqCoreS (fuel : Nat) (x1 : (List Core)) (x2 : (List Core)) : Option Bool :=
 match fuel with
 | 0 => none
 | fuel + 1 =>
 (bif (decide ((x1.length : Int) ≠ (x2.length : Int))) then
 some false
 else
 m_laws_eqCoreS_l1 fuel x1 x2 0)
def m_laws_eqCoreS_l1 (fuel : Nat) (x1 : (List Core)) (x2 : (List Core)) (g2 : Int) : Option Bool :=
 match fuel with
 | 0 => none
 | fuel + 1 =>
 (bif (decide (g2 < (x1.length : Int))) then
 (idx x1 g2).bind fun v6 =>
 (idx x2 g2).bind fun v7 =>
 (m_laws_eqCore fuel v6 v7).bind fun v8 =>
 (bif (!v8) then
 some false
 else
 m_laws_eqCoreS_l1 fuel x1 x2 (g2 + 1))
 else
 some true)
end
def m_spec_l6Last_l1 (fuel : Nat) (x1 : (List Int)) (x2 : Int) (g1 : Int) : Option Int :=
 match fuel with
 | 0 => none
 | fuel + 1 =>
 (bif (decide (0 ≤ g1)) then
 (idx x1 g1).bind fun v4 =>
 (bif (decide (v4 = x2)) then
 some (w64 ((w64 ((x1.length : Int) - 1)) - g1))
 else
 m_spec_l6Last_l1 fuel x1 x2 (w64 (g1 - 1)))
 else
 some (-1))
def m_spec_l6Last (fuel : Nat) (x1 : (List Int)) (x2 : Int) : Option Int :=
 m_spec_l6Last_l1 fuel x1 x2 (w64 ((x1.length : Int) - 1))
end Go.Abs
