/- A part of the proof: what the functions that the law calls answer, as pure values. -/
import Derived.Test.YtcebadpiebamdaaK433bdd507a07
set_option linter.unusedSimpArgs false
set_option linter.unusedVariables false
set_option maxHeartbeats 4000000
namespace Go.Abs
def m_laws_szIntS (fuel : Nat) (x1 : (List Int)) (x2 : Int) : Option Int :=
 (bif (decide ((w64 (x2 - (x1.length : Int))) < 0)) then
 some (-1)
 else
 some (w64 (x2 - (x1.length : Int))))
mutual
def m_laws_szForm (fuel : Nat) (x1 : Form) (x2 : Int) : Option Int :=
 match fuel with
 | 0 => none
 | fuel + 1 =>
 (bif (decide ((w64 (x2 - (x1.name.size : Int))) < 0)) then
 some (-1)
 else
 (m_laws_szIntS fuel x1.scopes (w64 (x2 - (x1.name.size : Int)))).bind fun v2 =>
 (bif (decide (v2 < 0)) then
 some (-1)
 else
 (m_laws_szFormS fuel x1.kids v2).bind fun v4 =>
 (bif (decide (v4 < 0)) then
 some (-1)
 else
 some v4)))
def m_laws_szFormS (fuel : Nat) (x1 : (List Form)) (x2 : Int) : Option Int :=
 match fuel with
 | 0 => none
 | fuel + 1 =>
 (bif (decide ((w64 (x2 - (x1.length : Int))) < 0)) then
 some (-1)
 else
 m_laws_szFormS_l1 fuel x1 (w64 (x2 - (x1.length : Int))) 0)
def m_laws_szFormS_l1 (fuel : Nat) (x1 : (List Form)) (g2 : Int) (g3 : Int) : Option Int :=
 match fuel with
 | 0 => none
 | fuel + 1 =>
 (bif (decide (g3 < (x1.length : Int))) then
 (idx x1 g3).bind fun v7 =>
 (m_laws_szForm fuel v7 g2).bind fun v8 =>
 (bif (decide (v8 < 0)) then
 some (-1)
 else
 m_laws_szFormS_l1 fuel x1 v8 (g3 + 1))
 else
 some g2)
end
def m_laws_toIntS_l1 (fuel : Nat) (x1 : (List Int)) (g2 : Int) (g3 : (List Int)) : Option (List Int) :=
 match fuel with
 | 0 => none
 | fuel + 1 =>
 (bif (decide (g2 < (x1.length : Int))) then
 (idx x1 g2).bind fun v7 =>
 (idx g3 g2).bind fun v8 =>
 m_laws_toIntS_l1 fuel x1 (g2 + 1) (g3.set g2.toNat v7)
 else
 some g3)
def m_laws_toIntS (fuel : Nat) (x1 : (List Int)) : Option (List Int) :=
 chk (decide (0 ≤ (x1.length : Int)) && decide ((x1.length : Int).toNat * 8 ≤ 140737488355328)) <|
 m_laws_toIntS_l1 fuel x1 0 (List.replicate (x1.length : Int).toNat 0)
mutual
def m_laws_toForm (fuel : Nat) (x1 : Form) : Option Form :=
 match fuel with
 | 0 => none
 | fuel + 1 =>
 (m_laws_toIntS fuel x1.scopes).bind fun v1 =>
 (m_laws_toFormS fuel x1.kids).bind fun v2 =>
 some (Form.mk x1.kind x1.name x1.n v1 v2)
def m_laws_toFormS (fuel : Nat) (x1 : (List Form)) : Option (List Form) :=
 match fuel with
 | 0 => none
 | fuel + 1 =>
 chk (decide (0 ≤ (x1.length : Int)) && decide ((x1.length : Int).toNat * 80 ≤ 140737488355328)) <|
 m_laws_toFormS_l1 fuel x1 0 (List.replicate (x1.length : Int).toNat (Form.mk 0 (⟨#[]⟩ : ByteArray) 0 ([] : List Int) ([] : List Form)))
def m_laws_toFormS_l1 (fuel : Nat) (x1 : (List Form)) (g2 : Int) (g3 : (List Form)) : Option (List Form) :=
 match fuel with
 | 0 => none
 | fuel + 1 =>
 (bif (decide (g2 < (x1.length : Int))) then
 (idx x1 g2).bind fun v7 =>
 (m_laws_toForm fuel v7).bind fun v8 =>
 (idx g3 g2).bind fun v9 =>
 m_laws_toFormS_l1 fuel x1 (g2 + 1) (g3.set g2.toNat v8)
 else
 some g3)
end
def m_spec_l1Letter (fuel : Nat) (x1 : Int) (x2 : Bool) : Option Bool :=
 (bif (decide (97 ≤ x1)) then
 (bif (decide (x1 ≤ 122)) then
 some true
 else
 (bif (decide (x1 = 42)) then
 some true
 else
 (bif (decide (x1 = 63)) then
 some true
 else
 (bif (decide (x1 = 61)) then
 some true
 else
 (bif (decide (x1 = 43)) then
 some true
 else
 (bif (decide (x1 = 60)) then
 some true
 else
 (bif (!x2) then
 (bif (decide (48 ≤ x1)) then
 (bif (decide (x1 ≤ 57)) then
 some true
 else
 some (decide (x1 = 45)))
 else
 some (decide (x1 = 45)))
 else
 some false)))))))
 else
 (bif (decide (x1 = 42)) then
 some true
 else
 (bif (decide (x1 = 63)) then
 some true
 else
 (bif (decide (x1 = 61)) then
 some true
 else
 (bif (decide (x1 = 43)) then
 some true
 else
 (bif (decide (x1 = 60)) then
 some true
 else
 (bif (!x2) then
 (bif (decide (48 ≤ x1)) then
 (bif (decide (x1 ≤ 57)) then
 some true
 else
 some (decide (x1 = 45)))
 else
 some (decide (x1 = 45)))
 else
 some false)))))))
def m_spec_NameValid_l1 (fuel : Nat) (x1 : ByteArray) (g3 : Int) : Option Bool :=
 match fuel with
 | 0 => none
 | fuel + 1 =>
 (bif (decide (g3 < (x1.size : Int))) then
 (bif (decide (g3 ≤ 12)) then
 (bidx x1 g3).bind fun v7 =>
 (m_spec_l1Letter fuel v7 (decide (g3 = 0))).bind fun v8 =>
 (bif (!v8) then
 some false
 else
 m_spec_NameValid_l1 fuel x1 (w64 (g3 + 1)))
 else
 (bif (decide (1 ≤ (x1.size : Int))) then
 some (decide ((x1.size : Int) ≤ 12))
 else
 some false))
 else
 (bif (decide (1 ≤ (x1.size : Int))) then
 some (decide ((x1.size : Int) ≤ 12))
 else
 some false))
def m_spec_NameValid (fuel : Nat) (x1 : ByteArray) : Option Bool :=
 (bif (decide (x1 = (⟨#[46, 46, 46]⟩ : ByteArray))) then
 some true
 else
 (bif (decide (x1 = (⟨#[95]⟩ : ByteArray))) then
 some true
 else
 m_spec_NameValid_l1 fuel x1 0))
def m_spec_l1Scopes_l1 (fuel : Nat) (x1 : (List Int)) (g1 : Int) : Option Bool :=
 match fuel with
 | 0 => none
 | fuel + 1 =>
 (bif (decide (g1 < (x1.length : Int))) then
 (bif (decide (g1 ≤ 24)) then
 (idx x1 g1).bind fun v5 =>
 (bif (decide (v5 < 1)) then
 some false
 else
 (idx x1 g1).bind fun v7 =>
 (bif (decide (99 < v7)) then
 some false
 else
 (bif (decide (0 < g1)) then
 (idx x1 g1).bind fun v10 =>
 (idx x1 (w64 (g1 - 1))).bind fun v11 =>
 (bif (decide (v10 ≤ v11)) then
 some false
 else
 m_spec_l1Scopes_l1 fuel x1 (w64 (g1 + 1)))
 else
 m_spec_l1Scopes_l1 fuel x1 (w64 (g1 + 1)))))
 else
 some (decide ((x1.length : Int) ≤ 24)))
 else
 some (decide ((x1.length : Int) ≤ 24)))
def m_spec_l1Scopes (fuel : Nat) (x1 : (List Int)) : Option Bool :=
 m_spec_l1Scopes_l1 fuel x1 0
mutual
def m_spec_l1Is (fuel : Nat) (x1 : Form) (x2 : Int) : Option Bool :=
 match fuel with
 | 0 => none
 | fuel + 1 =>
 (bif (decide (x2 = 0)) then
 some false
 else
 (bif (decide (x1.kind = 1)) then
 (m_spec_NameValid fuel x1.name).bind fun v3 =>
 (bif v3 then
 (bif (decide (x1.n = 0)) then
 (m_spec_l1Scopes fuel x1.scopes).bind fun v6 =>
 (bif v6 then
 some (decide ((x1.kids.length : Int) = 0))
 else
 some false)
 else
 some false)
 else
 some false)
 else
 (bif (decide (x1.kind = 2)) then
 (bif (decide (x1.name = (⟨#[]⟩ : ByteArray))) then
 (bif (decide (0 ≤ x1.n)) then
 (bif (decide (x1.n ≤ 999)) then
 (bif (decide ((x1.scopes.length : Int) = 0)) then
 some (decide ((x1.kids.length : Int) = 0))
 else
 some false)
 else
 some false)
 else
 some false)
 else
 some false)
 else
 (bif (decide (x1.kind ≠ 3)) then
 some false
 else
 (bif (decide (x1.name ≠ (⟨#[]⟩ : ByteArray))) then
 some false
 else
 (bif (decide (x1.n ≠ 0)) then
 some false
 else
 (bif (decide ((x1.scopes.length : Int) ≠ 0)) then
 some false
 else
 m_spec_l1Is_l1 fuel x1 x2 0)))))))
def m_spec_l1Is_l1 (fuel : Nat) (x1 : Form) (x2 : Int) (g17 : Int) : Option Bool :=
 match fuel with
 | 0 => none
 | fuel + 1 =>
 (bif (decide (g17 < (x1.kids.length : Int))) then
 (idx x1.kids g17).bind fun v21 =>
 (m_spec_l1Is fuel v21 (w64 (x2 - 1))).bind fun v22 =>
 (bif (!v22) then
 some false
 else
 m_spec_l1Is_l1 fuel x1 x2 (g17 + 1))
 else
 some true)
end
mutual
def m_spec_l1Count (fuel : Nat) (x1 : Form) : Option Int :=
 match fuel with
 | 0 => none
 | fuel + 1 =>
 m_spec_l1Count_l1 fuel x1 1 0
def m_spec_l1Count_l1 (fuel : Nat) (x1 : Form) (g1 : Int) (g2 : Int) : Option Int :=
 match fuel with
 | 0 => none
 | fuel + 1 =>
 (bif (decide (g2 < (x1.kids.length : Int))) then
 (idx x1.kids g2).bind fun v6 =>
 (m_spec_l1Count fuel v6).bind fun v7 =>
 m_spec_l1Count_l1 fuel x1 (w64 (g1 + v7)) (g2 + 1)
 else
 some g1)
end
def m_spec_FormValid (fuel : Nat) (x1 : Form) : Option Bool :=
 (m_spec_l1Is fuel x1 40).bind fun v1 =>
 (bif v1 then
 (m_spec_l1Count fuel x1).bind fun v3 =>
 some (decide (v3 ≤ 400))
 else
 some false)
def m_spec_l3Is (fuel : Nat) (x1 : Form) : Option Bool :=
 (bif (decide (x1.kind = 1)) then
 (m_spec_FormValid fuel x1).bind fun v2 =>
 some v2
 else
 some false)
def m_spec_l1Ints_l1 (fuel : Nat) (x1 : (List Int)) (x2 : (List Int)) (g2 : Int) : Option Bool :=
 match fuel with
 | 0 => none
 | fuel + 1 =>
 (bif (decide (g2 < (x1.length : Int))) then
 (idx x1 g2).bind fun v6 =>
 (idx x2 g2).bind fun v7 =>
 (bif (decide (v6 ≠ v7)) then
 some false
 else
 m_spec_l1Ints_l1 fuel x1 x2 (g2 + 1))
 else
 some true)
def m_spec_l1Ints (fuel : Nat) (x1 : (List Int)) (x2 : (List Int)) : Option Bool :=
 (bif (decide ((x1.length : Int) ≠ (x2.length : Int))) then
 some false
 else
 m_spec_l1Ints_l1 fuel x1 x2 0)
mutual
def m_spec_FormSame (fuel : Nat) (x1 : Form) (x2 : Form) : Option Bool :=
 match fuel with
 | 0 => none
 | fuel + 1 =>
 (bif (decide (x1.kind ≠ x2.kind)) then
 some false
 else
 (bif (decide (x1.name ≠ x2.name)) then
 some false
 else
 (bif (decide (x1.n ≠ x2.n)) then
 some false
 else
 (m_spec_l1Ints fuel x1.scopes x2.scopes).bind fun v4 =>
 (bif (!v4) then
 some false
 else
 (bif (decide ((x1.kids.length : Int) ≠ (x2.kids.length : Int))) then
 some false
 else
 m_spec_FormSame_l1 fuel x1 x2 0)))))
def m_spec_FormSame_l1 (fuel : Nat) (x1 : Form) (x2 : Form) (g7 : Int) : Option Bool :=
 match fuel with
 | 0 => none
 | fuel + 1 =>
 (bif (decide (g7 < (x1.kids.length : Int))) then
 (idx x1.kids g7).bind fun v11 =>
 (idx x2.kids g7).bind fun v12 =>
 (m_spec_FormSame fuel v11 v12).bind fun v13 =>
 (bif (!v13) then
 some false
 else
 m_spec_FormSame_l1 fuel x1 x2 (g7 + 1))
 else
 some true)
end
def m_spec_l4Dots (fuel : Nat) (x1 : Form) : Option Bool :=
 (bif (decide (x1.kind = 1)) then
 some (decide (x1.name = (⟨#[46, 46, 46]⟩ : ByteArray)))
 else
 some false)
def m_strings_IndexByte (fuel : Nat) (x1 : ByteArray) (x2 : Int) : Option Int :=
 some (Lib.indexByte x1.data.toList x2.toNat.toUInt8)
def m_impl_within (fuel : Nat) (x1 : Int) (x2 : Int) (x3 : Int) : Option Bool :=
 (bif (decide (x2 ≤ x1)) then
 some (decide (x1 ≤ x3))
 else
 some false)
def m_impl_NameValid_l1 (fuel : Nat) (x1 : ByteArray) (g3 : Int) : Option Bool :=
 match fuel with
 | 0 => none
 | fuel + 1 =>
 (bif (decide (g3 < (x1.size : Int))) then
 (bidx x1 g3).bind fun v6 =>
 (bif (decide (97 ≤ v6)) then
 (bif (decide (v6 ≤ 122)) then
 m_impl_NameValid_l1 fuel x1 (w64 (g3 + 1))
 else
 (m_strings_IndexByte fuel (⟨#[42, 63, 61, 43, 60]⟩ : ByteArray) v6).bind fun v9 =>
 (bif (decide (0 ≤ v9)) then
 m_impl_NameValid_l1 fuel x1 (w64 (g3 + 1))
 else
 (bif (decide (0 < g3)) then
 (bif (decide (48 ≤ v6)) then
 (bif (decide (v6 ≤ 57)) then
 m_impl_NameValid_l1 fuel x1 (w64 (g3 + 1))
 else
 (bif (decide (v6 = 45)) then
 m_impl_NameValid_l1 fuel x1 (w64 (g3 + 1))
 else
 some false))
 else
 (bif (decide (v6 = 45)) then
 m_impl_NameValid_l1 fuel x1 (w64 (g3 + 1))
 else
 some false))
 else
 some false)))
 else
 (m_strings_IndexByte fuel (⟨#[42, 63, 61, 43, 60]⟩ : ByteArray) v6).bind fun v16 =>
 (bif (decide (0 ≤ v16)) then
 m_impl_NameValid_l1 fuel x1 (w64 (g3 + 1))
 else
 (bif (decide (0 < g3)) then
 (bif (decide (48 ≤ v6)) then
 (bif (decide (v6 ≤ 57)) then
 m_impl_NameValid_l1 fuel x1 (w64 (g3 + 1))
 else
 (bif (decide (v6 = 45)) then
 m_impl_NameValid_l1 fuel x1 (w64 (g3 + 1))
 else
 some false))
 else
 (bif (decide (v6 = 45)) then
 m_impl_NameValid_l1 fuel x1 (w64 (g3 + 1))
 else
 some false))
 else
 some false)))
 else
 (m_impl_within fuel (x1.size : Int) 1 12).bind fun v23 =>
 some v23)
def m_impl_NameValid (fuel : Nat) (x1 : ByteArray) : Option Bool :=
 (bif (decide (x1 = (⟨#[46, 46, 46]⟩ : ByteArray))) then
 some true
 else
 (bif (decide (x1 = (⟨#[95]⟩ : ByteArray))) then
 some true
 else
 m_impl_NameValid_l1 fuel x1 0))
def m_impl_scopesOk_l1 (fuel : Nat) (x1 : (List Int)) (g1 : Int) : Option Bool :=
 match fuel with
 | 0 => none
 | fuel + 1 =>
 (bif (decide (g1 < (x1.length : Int))) then
 (idx x1 g1).bind fun v5 =>
 (m_impl_within fuel v5 1 99).bind fun v6 =>
 (bif (!v6) then
 some false
 else
 (bif (decide (0 < g1)) then
 (idx x1 (w64 (g1 - 1))).bind fun v9 =>
 (bif (decide (v5 ≤ v9)) then
 some false
 else
 m_impl_scopesOk_l1 fuel x1 (g1 + 1))
 else
 m_impl_scopesOk_l1 fuel x1 (g1 + 1)))
 else
 some (decide ((x1.length : Int) ≤ 24)))
def m_impl_scopesOk (fuel : Nat) (x1 : (List Int)) : Option Bool :=
 m_impl_scopesOk_l1 fuel x1 0
mutual
def m_impl_formOk (fuel : Nat) (x1 : Form) (x2 : Int) (o1 : Int) : Option (Bool × Int) :=
 match fuel with
 | 0 => none
 | fuel + 1 =>
 (bif (decide ((w64 (o1 - 1)) < 0)) then
 some (false, (w64 (o1 - 1)))
 else
 (bif (decide (40 < x2)) then
 some (false, (w64 (o1 - 1)))
 else
 (bif (decide (x1.kind = 1)) then
 (m_impl_NameValid fuel x1.name).bind fun v4 =>
 (bif v4 then
 (bif (decide (x1.n = 0)) then
 (m_impl_scopesOk fuel x1.scopes).bind fun v7 =>
 (bif v7 then
 some ((decide ((x1.kids.length : Int) = 0)), (w64 (o1 - 1)))
 else
 some (false, (w64 (o1 - 1))))
 else
 some (false, (w64 (o1 - 1))))
 else
 some (false, (w64 (o1 - 1))))
 else
 (bif (decide (x1.kind = 2)) then
 (bif (decide (x1.name = (⟨#[]⟩ : ByteArray))) then
 (m_impl_within fuel x1.n 0 999).bind fun v11 =>
 (bif v11 then
 (bif (decide ((x1.scopes.length : Int) = 0)) then
 some ((decide ((x1.kids.length : Int) = 0)), (w64 (o1 - 1)))
 else
 some (false, (w64 (o1 - 1))))
 else
 some (false, (w64 (o1 - 1))))
 else
 some (false, (w64 (o1 - 1))))
 else
 (bif (decide (x1.kind = 3)) then
 (bif (decide (x1.name ≠ (⟨#[]⟩ : ByteArray))) then
 some (false, (w64 (o1 - 1)))
 else
 (bif (decide (x1.n ≠ 0)) then
 some (false, (w64 (o1 - 1)))
 else
 (bif (decide (0 < (x1.scopes.length : Int))) then
 some (false, (w64 (o1 - 1)))
 else
 m_impl_formOk_l1 fuel x1 x2 0 (w64 (o1 - 1)))))
 else
 some (false, (w64 (o1 - 1))))))))
def m_impl_formOk_l1 (fuel : Nat) (x1 : Form) (x2 : Int) (g19 : Int) (g20 : Int) : Option (Bool × Int) :=
 match fuel with
 | 0 => none
 | fuel + 1 =>
 (bif (decide (g19 < (x1.kids.length : Int))) then
 (idx x1.kids g19).bind fun v24 =>
 (m_impl_formOk fuel v24 (w64 (x2 + 1)) g20).bind fun v25 =>
 (bif (!v25.1) then
 some (false, v25.2)
 else
 m_impl_formOk_l1 fuel x1 x2 (g19 + 1) v25.2)
 else
 some (true, g20))
end
def m_impl_FormValid (fuel : Nat) (x1 : Form) : Option Bool :=
 (m_impl_formOk fuel x1 1 400).bind fun v1 =>
 some v1.1
def m_impl_isName (fuel : Nat) (x1 : Form) : Option Bool :=
 (bif (decide (x1.kind = 1)) then
 (m_impl_FormValid fuel x1).bind fun v2 =>
 some v2
 else
 some false)
def m_slices_Equal_int_l1 (fuel : Nat) (x1 : (List Int)) (x2 : (List Int)) (g2 : Int) : Option Bool :=
 match fuel with
 | 0 => none
 | fuel + 1 =>
 (bif (decide (g2 < (x1.length : Int))) then
 (idx x1 g2).bind fun v6 =>
 (idx x2 g2).bind fun v7 =>
 (bif (decide (v6 ≠ v7)) then
 some false
 else
 m_slices_Equal_int_l1 fuel x1 x2 (g2 + 1))
 else
 some true)
def m_slices_Equal_int (fuel : Nat) (x1 : (List Int)) (x2 : (List Int)) : Option Bool :=
 (bif (decide ((x1.length : Int) ≠ (x2.length : Int))) then
 some false
 else
 m_slices_Equal_int_l1 fuel x1 x2 0)
mutual
def m_impl_FormSame (fuel : Nat) (x1 : Form) (x2 : Form) : Option Bool :=
 match fuel with
 | 0 => none
 | fuel + 1 =>
 (bif (decide (x1.kind = x2.kind)) then
 (bif (decide (x1.name = x2.name)) then
 (bif (decide (x1.n = x2.n)) then
 (m_slices_Equal_int fuel x1.scopes x2.scopes).bind fun v4 =>
 (bif v4 then
 (m_slices_EqualFunc_Form_FormSame fuel x1.kids x2.kids).bind fun v6 =>
 some v6
 else
 some false)
 else
 some false)
 else
 some false)
 else
 some false)
def m_slices_EqualFunc_Form_FormSame (fuel : Nat) (x1 : (List Form)) (x2 : (List Form)) : Option Bool :=
 match fuel with
 | 0 => none
 | fuel + 1 =>
 (bif (decide ((x1.length : Int) ≠ (x2.length : Int))) then
 some false
 else
 m_slices_EqualFunc_Form_FormSame_l1 fuel x1 x2 0)
def m_slices_EqualFunc_Form_FormSame_l1 (fuel : Nat) (x1 : (List Form)) (x2 : (List Form)) (g2 : Int) : Option Bool :=
 match fuel with
 | 0 => none
 | fuel + 1 =>
 (bif (decide (g2 < (x1.length : Int))) then
 (idx x1 g2).bind fun v6 =>
 (idx x2 g2).bind fun v7 =>
 (m_impl_FormSame fuel v6 v7).bind fun v8 =>
 (bif (!v8) then
 some false
 else
 m_slices_EqualFunc_Form_FormSame_l1 fuel x1 x2 (g2 + 1))
 else
 some true)
end
def m_impl_named (fuel : Nat) (x1 : Form) (x2 : ByteArray) : Option Bool :=
 (bif (decide (x1.kind = 1)) then
 some (decide (x1.name = x2))
 else
 some false)
def m_impl_dotsAt_1 (fuel : Nat) (x1 : Form) : Option Bool :=
 (m_impl_named fuel x1 (⟨#[46, 46, 46]⟩ : ByteArray)).bind fun v1 =>
 some v1
def m_slices_IndexFunc_Form_dotsAt_1_l1 (fuel : Nat) (x1 : (List Form)) (g1 : Int) : Option Int :=
 match fuel with
 | 0 => none
 | fuel + 1 =>
 (bif (decide (g1 < (x1.length : Int))) then
 (idx x1 g1).bind fun v5 =>
 (m_impl_dotsAt_1 fuel v5).bind fun v6 =>
 (bif v6 then
 some g1
 else
 m_slices_IndexFunc_Form_dotsAt_1_l1 fuel x1 (g1 + 1))
 else
 some (-1))
def m_slices_IndexFunc_Form_dotsAt_1 (fuel : Nat) (x1 : (List Form)) : Option Int :=
 m_slices_IndexFunc_Form_dotsAt_1_l1 fuel x1 0
def m_impl_dotsAt (fuel : Nat) (x1 : (List Form)) : Option Int :=
 (m_slices_IndexFunc_Form_dotsAt_1 fuel x1).bind fun v1 =>
 some v1
mutual
def m_impl_dotsOk (fuel : Nat) (x1 : Form) (x2 : Bool) : Option Bool :=
 match fuel with
 | 0 => none
 | fuel + 1 =>
 m_impl_dotsOk_l1 fuel x1 x2 0
def m_impl_dotsOk_l1 (fuel : Nat) (x1 : Form) (x2 : Bool) (g1 : Int) : Option Bool :=
 match fuel with
 | 0 => none
 | fuel + 1 =>
 (bif (decide (g1 < (x1.kids.length : Int))) then
 (idx x1.kids g1).bind fun v5 =>
 (m_impl_named fuel v5 (⟨#[46, 46, 46]⟩ : ByteArray)).bind fun v6 =>
 (bif v6 then
 (bif (decide (g1 = 0)) then
 some false
 else
 (idx x1.kids (w64 (g1 - 1))).bind fun v9 =>
 (m_impl_named fuel v9 (⟨#[46, 46, 46]⟩ : ByteArray)).bind fun v10 =>
 (bif v10 then
 some false
 else
 (bif x2 then
 (sub x1.kids 0 g1).bind fun v13 =>
 (m_impl_dotsAt fuel v13).bind fun v14 =>
 (bif (decide (0 ≤ v14)) then
 some false
 else
 m_impl_dotsOk_l1 fuel x1 x2 (g1 + 1))
 else
 m_impl_dotsOk_l1 fuel x1 x2 (g1 + 1))))
 else
 (m_impl_dotsOk fuel v5 x2).bind fun v16 =>
 (bif (!v16) then
 some false
 else
 m_impl_dotsOk_l1 fuel x1 x2 (g1 + 1)))
 else
 some true)
end
def m_laws_eqIntS_l1 (fuel : Nat) (x1 : (List Int)) (x2 : (List Int)) (g2 : Int) : Option Bool :=
 match fuel with
 | 0 => none
 | fuel + 1 =>
 (bif (decide (g2 < (x1.length : Int))) then
 (idx x1 g2).bind fun v6 =>
 (idx x2 g2).bind fun v7 =>
 (bif (decide (v6 ≠ v7)) then
 some false
 else
 m_laws_eqIntS_l1 fuel x1 x2 (g2 + 1))
 else
 some true)
def m_laws_eqIntS (fuel : Nat) (x1 : (List Int)) (x2 : (List Int)) : Option Bool :=
 (bif (decide ((x1.length : Int) ≠ (x2.length : Int))) then
 some false
 else
 m_laws_eqIntS_l1 fuel x1 x2 0)
mutual
def m_laws_eqForm (fuel : Nat) (x1 : Form) (x2 : Form) : Option Bool :=
 match fuel with
 | 0 => none
 | fuel + 1 =>
 (bif (decide (x1.kind ≠ x2.kind)) then
 some false
 else
 (bif (decide (x1.name ≠ x2.name)) then
 some false
 else
 (bif (decide (x1.n ≠ x2.n)) then
 some false
 else
 (m_laws_eqIntS fuel x1.scopes x2.scopes).bind fun v4 =>
 (bif (!v4) then
 some false
 else
 (m_laws_eqFormS fuel x1.kids x2.kids).bind fun v6 =>
 (bif (!v6) then
 some false
 else
 some true)))))
def m_laws_eqFormS (fuel : Nat) (x1 : (List Form)) (x2 : (List Form)) : Option Bool :=
 match fuel with
 | 0 => none
 | fuel + 1 =>
 (bif (decide ((x1.length : Int) ≠ (x2.length : Int))) then
 some false
 else
 m_laws_eqFormS_l1 fuel x1 x2 0)
def m_laws_eqFormS_l1 (fuel : Nat) (x1 : (List Form)) (x2 : (List Form)) (g2 : Int) : Option Bool :=
 match fuel with
 | 0 => none
 | fuel + 1 =>
 (bif (decide (g2 < (x1.length : Int))) then
 (idx x1 g2).bind fun v6 =>
 (idx x2 g2).bind fun v7 =>
 (m_laws_eqForm fuel v6 v7).bind fun v8 =>
 (bif (!v8) then
 some false
 else
 m_laws_eqFormS_l1 fuel x1 x2 (g2 + 1))
 else
 some true)
end
def m_spec_l4In_l1 (fuel : Nat) (x1 : (List Form)) (x2 : Form) (g1 : Int) : Option Bool :=
 match fuel with
 | 0 => none
 | fuel + 1 =>
 (bif (decide (g1 < (x1.length : Int))) then
 (idx x1 g1).bind fun v5 =>
 (m_spec_FormSame fuel v5 x2).bind fun v6 =>
 (bif v6 then
 some true
 else
 m_spec_l4In_l1 fuel x1 x2 (g1 + 1))
 else
 some false)
def m_spec_l4In (fuel : Nat) (x1 : (List Form)) (x2 : Form) : Option Bool :=
 m_spec_l4In_l1 fuel x1 x2 0
def m_spec_l4Literals_l1 (fuel : Nat) (x1 : (List Form)) (g1 : Int) : Option Bool :=
 match fuel with
 | 0 => none
 | fuel + 1 =>
 (bif (decide (g1 < (x1.length : Int))) then
 (bif (decide (g1 < 10)) then
 (idx x1 g1).bind fun v5 =>
 (m_spec_l3Is fuel v5).bind fun v6 =>
 (bif (!v6) then
 some false
 else
 (idx x1 g1).bind fun v8 =>
 (bif (decide (v8.name = (⟨#[46, 46, 46]⟩ : ByteArray))) then
 some false
 else
 (idx x1 g1).bind fun v10 =>
 (bif (decide (v10.name = (⟨#[95]⟩ : ByteArray))) then
 some false
 else
 (sub x1 0 g1).bind fun v12 =>
 (idx x1 g1).bind fun v13 =>
 (m_spec_l4In fuel v12 v13).bind fun v14 =>
 (bif v14 then
 some false
 else
 m_spec_l4Literals_l1 fuel x1 (w64 (g1 + 1))))))
 else
 some (decide ((x1.length : Int) < 10)))
 else
 some (decide ((x1.length : Int) < 10)))
def m_spec_l4Literals (fuel : Nat) (x1 : (List Form)) : Option Bool :=
 m_spec_l4Literals_l1 fuel x1 0
mutual
def m_spec_l4Shape (fuel : Nat) (x1 : Form) : Option Bool :=
 match fuel with
 | 0 => none
 | fuel + 1 =>
 (m_spec_l4Dots fuel x1).bind fun v1 =>
 (bif v1 then
 some false
 else
 m_spec_l4Shape_l1 fuel x1 0 0)
def m_spec_l4Shape_l1 (fuel : Nat) (x1 : Form) (g3 : Int) (g4 : Int) : Option Bool :=
 match fuel with
 | 0 => none
 | fuel + 1 =>
 (bif (decide (g4 < (x1.kids.length : Int))) then
 (idx x1.kids g4).bind fun v8 =>
 (m_spec_l4Dots fuel v8).bind fun v9 =>
 (bif v9 then
 (bif (decide (g4 = 0)) then
 some false
 else
 (idx x1.kids (w64 (g4 - 1))).bind fun v12 =>
 (m_spec_l4Dots fuel v12).bind fun v13 =>
 (bif v13 then
 some false
 else
 m_spec_l4Shape_l1 fuel x1 (w64 (g3 + 1)) (g4 + 1)))
 else
 (idx x1.kids g4).bind fun v15 =>
 (m_spec_l4Shape fuel v15).bind fun v16 =>
 (bif (!v16) then
 some false
 else
 m_spec_l4Shape_l1 fuel x1 g3 (g4 + 1)))
 else
 some (decide (g3 ≤ 1)))
end
def m_spec_l4Var (fuel : Nat) (x1 : Form) (x2 : (List Form)) : Option Bool :=
 (bif (decide (x1.kind = 1)) then
 (bif (decide (x1.name ≠ (⟨#[46, 46, 46]⟩ : ByteArray))) then
 (bif (decide (x1.name ≠ (⟨#[95]⟩ : ByteArray))) then
 (m_spec_l4In fuel x2 x1).bind fun v4 =>
 some (!v4)
 else
 some false)
 else
 some false)
 else
 some false)
mutual
def m_spec_l4Vars (fuel : Nat) (x1 : (List Form)) (x2 : Form) (x3 : (List Form)) : Option (List Form) :=
 match fuel with
 | 0 => none
 | fuel + 1 =>
 (m_spec_l4Var fuel x2 x3).bind fun v1 =>
 (bif v1 then
 chk (decide ((x1.length + [x2].length) * 80 ≤ 140737488355328)) <|
 m_spec_l4Vars_l1 fuel x2 x3 (x1 ++ [x2]) 0
 else
 m_spec_l4Vars_l1 fuel x2 x3 x1 0)
def m_spec_l4Vars_l1 (fuel : Nat) (x2 : Form) (x3 : (List Form)) (g4 : (List Form)) (g5 : Int) : Option (List Form) :=
 match fuel with
 | 0 => none
 | fuel + 1 =>
 (bif (decide (g5 < (x2.kids.length : Int))) then
 (idx x2.kids g5).bind fun v9 =>
 (m_spec_l4Vars fuel g4 v9 x3).bind fun v10 =>
 m_spec_l4Vars_l1 fuel x2 x3 v10 (g5 + 1)
 else
 some g4)
end
mutual
def m_spec_l4Depths (fuel : Nat) (x1 : (List Int)) (x2 : Form) (x3 : (List Form)) (x4 : Int) : Option (List Int) :=
 match fuel with
 | 0 => none
 | fuel + 1 =>
 (m_spec_l4Var fuel x2 x3).bind fun v1 =>
 (bif v1 then
 chk (decide ((x1.length + [x4].length) * 8 ≤ 140737488355328)) <|
 m_spec_l4Depths_l1 fuel x2 x3 x4 (x1 ++ [x4]) 0
 else
 m_spec_l4Depths_l1 fuel x2 x3 x4 x1 0)
def m_spec_l4Depths_l1 (fuel : Nat) (x2 : Form) (x3 : (List Form)) (x4 : Int) (g4 : (List Int)) (g5 : Int) : Option (List Int) :=
 match fuel with
 | 0 => none
 | fuel + 1 =>
 (bif (decide (g5 < (x2.kids.length : Int))) then
 (bif (decide ((g5 + 1) < (x2.kids.length : Int))) then
 (idx x2.kids (g5 + 1)).bind fun v10 =>
 (m_spec_l4Dots fuel v10).bind fun v11 =>
 (bif v11 then
 (idx x2.kids g5).bind fun v13 =>
 (m_spec_l4Depths fuel g4 v13 x3 (w64 (x4 + 1))).bind fun v14 =>
 m_spec_l4Depths_l1 fuel x2 x3 x4 v14 (g5 + 1)
 else
 (idx x2.kids g5).bind fun v15 =>
 (m_spec_l4Depths fuel g4 v15 x3 x4).bind fun v16 =>
 m_spec_l4Depths_l1 fuel x2 x3 x4 v16 (g5 + 1))
 else
 (idx x2.kids g5).bind fun v17 =>
 (m_spec_l4Depths fuel g4 v17 x3 x4).bind fun v18 =>
 m_spec_l4Depths_l1 fuel x2 x3 x4 v18 (g5 + 1))
 else
 some g4)
end
mutual
def m_spec_l4Is_l2 (fuel : Nat) (g9 : (List Form)) (v17 : (List Int)) (g18 : Int) : Option Bool :=
 match fuel with
 | 0 => none
 | fuel + 1 =>
 (bif (decide (g18 < (v17.length : Int))) then
 (idx v17 g18).bind fun v22 =>
 (bif (decide (3 < v22)) then
 some false
 else
 m_spec_l4Is_l2 fuel g9 v17 (g18 + 1))
 else
 some (decide ((g9.length : Int) ≤ 20)))
def m_spec_l4Is_l1 (fuel : Nat) (x1 : Form) (x2 : (List Form)) (g8 : Int) (g9 : (List Form)) : Option Bool :=
 match fuel with
 | 0 => none
 | fuel + 1 =>
 (bif (decide (g8 < (g9.length : Int))) then
 (sub g9 0 g8).bind fun v13 =>
 (idx g9 g8).bind fun v14 =>
 (m_spec_l4In fuel v13 v14).bind fun v15 =>
 (bif v15 then
 some false
 else
 m_spec_l4Is_l1 fuel x1 x2 (g8 + 1) g9)
 else
 (m_spec_l4Depths fuel ([] : List Int) x1 x2 0).bind fun v17 =>
 m_spec_l4Is_l2 fuel g9 v17 0)
end
def m_spec_l4Is (fuel : Nat) (x1 : Form) (x2 : (List Form)) : Option Bool :=
 (m_spec_FormValid fuel x1).bind fun v1 =>
 (bif (!v1) then
 some false
 else
 (m_spec_l4Literals fuel x2).bind fun v3 =>
 (bif (!v3) then
 some false
 else
 (m_spec_l4Shape fuel x1).bind fun v5 =>
 (bif (!v5) then
 some false
 else
 (m_spec_l4Vars fuel ([] : List Form) x1 x2).bind fun v7 =>
 m_spec_l4Is_l1 fuel x1 x2 0 v7)))
def m_impl_isIn_1 (fuel : Nat) (x1 : Form) (o1 : Form) : Option Bool :=
 (m_impl_FormSame fuel x1 o1).bind fun v1 =>
 some v1
def m_slices_IndexFunc_Form_isIn_1_l1 (fuel : Nat) (x1 : (List Form)) (o1 : Form) (g1 : Int) : Option Int :=
 match fuel with
 | 0 => none
 | fuel + 1 =>
 (bif (decide (g1 < (x1.length : Int))) then
 (idx x1 g1).bind fun v5 =>
 (m_impl_isIn_1 fuel v5 o1).bind fun v6 =>
 (bif v6 then
 some g1
 else
 m_slices_IndexFunc_Form_isIn_1_l1 fuel x1 o1 (g1 + 1))
 else
 some (-1))
def m_slices_IndexFunc_Form_isIn_1 (fuel : Nat) (x1 : (List Form)) (o1 : Form) : Option Int :=
 m_slices_IndexFunc_Form_isIn_1_l1 fuel x1 o1 0
def m_slices_ContainsFunc_Form_isIn_1 (fuel : Nat) (x1 : (List Form)) (o1 : Form) : Option Bool :=
 (m_slices_IndexFunc_Form_isIn_1 fuel x1 o1).bind fun v1 =>
 some (decide (0 ≤ v1))
def m_impl_isIn (fuel : Nat) (x1 : (List Form)) (x2 : Form) : Option Bool :=
 (m_slices_ContainsFunc_Form_isIn_1 fuel x1 x2).bind fun v1 =>
 some v1
def m_impl_literalsOk_l1 (fuel : Nat) (x1 : (List Form)) (g1 : Int) : Option Bool :=
 match fuel with
 | 0 => none
 | fuel + 1 =>
 (bif (decide (g1 < (x1.length : Int))) then
 (idx x1 g1).bind fun v5 =>
 (m_impl_isName fuel v5).bind fun v6 =>
 (bif (!v6) then
 some false
 else
 (bif (decide (v5.name = (⟨#[46, 46, 46]⟩ : ByteArray))) then
 some false
 else
 (bif (decide (v5.name = (⟨#[95]⟩ : ByteArray))) then
 some false
 else
 (sub x1 0 g1).bind fun v10 =>
 (m_impl_isIn fuel v10 v5).bind fun v11 =>
 (bif v11 then
 some false
 else
 m_impl_literalsOk_l1 fuel x1 (g1 + 1)))))
 else
 some (decide ((x1.length : Int) ≤ 9)))
def m_impl_literalsOk (fuel : Nat) (x1 : (List Form)) : Option Bool :=
 m_impl_literalsOk_l1 fuel x1 0
def m_impl_isVar (fuel : Nat) (x1 : Form) (x2 : (List Form)) : Option Bool :=
 (bif (decide (x1.kind = 1)) then
 (bif (decide (x1.name ≠ (⟨#[46, 46, 46]⟩ : ByteArray))) then
 (bif (decide (x1.name ≠ (⟨#[95]⟩ : ByteArray))) then
 (m_impl_isIn fuel x2 x1).bind fun v4 =>
 some (!v4)
 else
 some false)
 else
 some false)
 else
 some false)
mutual
def m_impl_patternVars (fuel : Nat) (x1 : Form) (x2 : (List Form)) (x3 : Int) (o1 : (List Form)) (o2 : (List Int)) : Option ((List Form) × (List Int)) :=
 match fuel with
 | 0 => none
 | fuel + 1 =>
 (m_impl_isVar fuel x1 x2).bind fun v1 =>
 (bif v1 then
 chk (decide ((o1.length + [(Form.mk 0 (⟨#[]⟩ : ByteArray) 0 ([] : List Int) ([] : List Form))].length) * 80 ≤ 140737488355328)) <|
 (idx (o1 ++ [(Form.mk 0 (⟨#[]⟩ : ByteArray) 0 ([] : List Int) ([] : List Form))]) (o1.length : Int)).bind fun v4 =>
 chk (decide ((o2.length + [x3].length) * 8 ≤ 140737488355328)) <|
 m_impl_patternVars_l1 fuel x1 x2 x3 0 ((o1 ++ [(Form.mk 0 (⟨#[]⟩ : ByteArray) 0 ([] : List Int) ([] : List Form))]).set (o1.length : Int).toNat x1) (o2 ++ [x3])
 else
 m_impl_patternVars_l1 fuel x1 x2 x3 0 o1 o2)
def m_impl_patternVars_l1 (fuel : Nat) (x1 : Form) (x2 : (List Form)) (x3 : Int) (g6 : Int) (g7 : (List Form)) (g8 : (List Int)) : Option ((List Form) × (List Int)) :=
 match fuel with
 | 0 => none
 | fuel + 1 =>
 (bif (decide (g6 < (x1.kids.length : Int))) then
 (idx x1.kids g6).bind fun v12 =>
 (bif (decide ((g6 + 1) < (x1.kids.length : Int))) then
 (idx x1.kids (g6 + 1)).bind fun v14 =>
 (m_impl_named fuel v14 (⟨#[46, 46, 46]⟩ : ByteArray)).bind fun v15 =>
 (bif v15 then
 (m_impl_patternVars fuel v12 x2 (w64 (x3 + 1)) g7 g8).bind fun v17 =>
 m_impl_patternVars_l1 fuel x1 x2 x3 (g6 + 1) v17.1 v17.2
 else
 (m_impl_patternVars fuel v12 x2 x3 g7 g8).bind fun v18 =>
 m_impl_patternVars_l1 fuel x1 x2 x3 (g6 + 1) v18.1 v18.2)
 else
 (m_impl_patternVars fuel v12 x2 x3 g7 g8).bind fun v19 =>
 m_impl_patternVars_l1 fuel x1 x2 x3 (g6 + 1) v19.1 v19.2)
 else
 some (g7, g8))
end
def m_impl_varsOf (fuel : Nat) (x1 : Form) (x2 : (List Form)) : Option ((List Form) × (List Int)) :=
 (m_impl_patternVars fuel x1 x2 0 ([] : List Form) ([] : List Int)).bind fun v1 =>
 some (v1.1, v1.2)
def m_impl_PatternValid_l1 (fuel : Nat) (v9 : (List Form) × (List Int)) (g10 : Int) (g11 : (List Form)) : Option Bool :=
 match fuel with
 | 0 => none
 | fuel + 1 =>
 (bif (decide (g10 < (v9.1.length : Int))) then
 (idx g11 g10).bind fun v14 =>
 (sub g11 0 g10).bind fun v15 =>
 (m_impl_isIn fuel v15 v14).bind fun v16 =>
 (bif v16 then
 some false
 else
 (idx v9.2 g10).bind fun v18 =>
 (bif (decide (3 < v18)) then
 some false
 else
 m_impl_PatternValid_l1 fuel v9 (w64 (g10 + 1)) g11))
 else
 some (decide ((g11.length : Int) ≤ 20)))
def m_impl_PatternValid (fuel : Nat) (x1 : Form) (x2 : (List Form)) : Option Bool :=
 (m_impl_FormValid fuel x1).bind fun v1 =>
 (bif (!v1) then
 some false
 else
 (m_impl_literalsOk fuel x2).bind fun v3 =>
 (bif (!v3) then
 some false
 else
 (m_impl_named fuel x1 (⟨#[46, 46, 46]⟩ : ByteArray)).bind fun v5 =>
 (bif v5 then
 some false
 else
 (m_impl_dotsOk fuel x1 true).bind fun v7 =>
 (bif (!v7) then
 some false
 else
 (m_impl_varsOf fuel x1 x2).bind fun v9 =>
 m_impl_PatternValid_l1 fuel v9 0 v9.1))))
def m_slices_Clone_int (fuel : Nat) (x1 : (List Int)) : Option (List Int) :=
 chk (decide ((([] : List Int).length + x1.length) * 8 ≤ 140737488355328)) <|
 some (([] : List Int) ++ x1)
mutual
def m_impl_copyForm (fuel : Nat) (x1 : Form) : Option Form :=
 match fuel with
 | 0 => none
 | fuel + 1 =>
 (m_slices_Clone_int fuel x1.scopes).bind fun v1 =>
 m_impl_copyForm_l1 fuel x1 v1 0 ([] : List Form)
def m_impl_copyForm_l1 (fuel : Nat) (x1 : Form) (v1 : (List Int)) (g2 : Int) (g3 : (List Form)) : Option Form :=
 match fuel with
 | 0 => none
 | fuel + 1 =>
 (bif (decide (g2 < (x1.kids.length : Int))) then
 (idx x1.kids g2).bind fun v7 =>
 (m_impl_copyForm fuel v7).bind fun v8 =>
 chk (decide ((g3.length + [v8].length) * 80 ≤ 140737488355328)) <|
 m_impl_copyForm_l1 fuel x1 v1 (g2 + 1) (g3 ++ [v8])
 else
 some (Form.mk x1.kind x1.name x1.n v1 g3))
end
def m_impl_PatternVars_l1 (fuel : Nat) (v3 : (List Form) × (List Int)) (g4 : Int) (g5 : (List Form)) : Option (List Form) :=
 match fuel with
 | 0 => none
 | fuel + 1 =>
 (bif (decide (g4 < (v3.1.length : Int))) then
 (idx g5 g4).bind fun v8 =>
 (m_impl_copyForm fuel v8).bind fun v9 =>
 (idx g5 g4).bind fun v10 =>
 m_impl_PatternVars_l1 fuel v3 (w64 (g4 + 1)) (g5.set g4.toNat v9)
 else
 some g5)
def m_impl_PatternVars (fuel : Nat) (x1 : Form) (x2 : (List Form)) : Option (List Form) :=
 (m_impl_PatternValid fuel x1 x2).bind fun v1 =>
 (bif (!v1) then
 some ([] : List Form)
 else
 (m_impl_varsOf fuel x1 x2).bind fun v3 =>
 m_impl_PatternVars_l1 fuel v3 0 v3.1)
mutual
def m_spec_l15OwnForm (fuel : Nat) (x1 : Form) : Option Form :=
 match fuel with
 | 0 => none
 | fuel + 1 =>
 chk (decide ((([] : List Int).length + x1.scopes.length) * 8 ≤ 140737488355328)) <|
 (m_spec_l15OwnListForm fuel x1.kids).bind fun v2 =>
 some (Form.mk x1.kind x1.name x1.n (([] : List Int) ++ x1.scopes) v2)
def m_spec_l15OwnListForm (fuel : Nat) (x1 : (List Form)) : Option (List Form) :=
 match fuel with
 | 0 => none
 | fuel + 1 =>
 m_spec_l15OwnListForm_l1 fuel x1 ([] : List Form) 0
def m_spec_l15OwnListForm_l1 (fuel : Nat) (x1 : (List Form)) (g1 : (List Form)) (g2 : Int) : Option (List Form) :=
 match fuel with
 | 0 => none
 | fuel + 1 =>
 (bif (decide (g2 < (x1.length : Int))) then
 (idx x1 g2).bind fun v6 =>
 (m_spec_l15OwnForm fuel v6).bind fun v7 =>
 chk (decide ((g1.length + [v7].length) * 80 ≤ 140737488355328)) <|
 m_spec_l15OwnListForm_l1 fuel x1 (g1 ++ [v7]) (g2 + 1)
 else
 some g1)
end
def m_spec_PatternVars (fuel : Nat) (x1 : Form) (x2 : (List Form)) : Option (List Form) :=
 (m_spec_l15OwnForm fuel x1).bind fun v1 =>
 (m_spec_l4Is fuel v1 x2).bind fun v2 =>
 (bif (!v2) then
 some ([] : List Form)
 else
 (m_spec_l4Vars fuel ([] : List Form) v1 x2).bind fun v4 =>
 some v4)
def m_impl_BindsValid_1 (fuel : Nat) (x1 : Bind) (o1 : Bind) : Option Bool :=
 (bif (decide (x1.name = o1.name)) then
 (m_slices_Equal_int fuel x1.scopes o1.scopes).bind fun v2 =>
 some v2
 else
 some false)
def m_slices_IndexFunc_Bind_BindsValid_1_l1 (fuel : Nat) (x1 : (List Bind)) (o1 : Bind) (g1 : Int) : Option Int :=
 match fuel with
 | 0 => none
 | fuel + 1 =>
 (bif (decide (g1 < (x1.length : Int))) then
 (idx x1 g1).bind fun v5 =>
 (m_impl_BindsValid_1 fuel v5 o1).bind fun v6 =>
 (bif v6 then
 some g1
 else
 m_slices_IndexFunc_Bind_BindsValid_1_l1 fuel x1 o1 (g1 + 1))
 else
 some (-1))
def m_slices_IndexFunc_Bind_BindsValid_1 (fuel : Nat) (x1 : (List Bind)) (o1 : Bind) : Option Int :=
 m_slices_IndexFunc_Bind_BindsValid_1_l1 fuel x1 o1 0
def m_slices_ContainsFunc_Bind_BindsValid_1 (fuel : Nat) (x1 : (List Bind)) (o1 : Bind) : Option Bool :=
 (m_slices_IndexFunc_Bind_BindsValid_1 fuel x1 o1).bind fun v1 =>
 some (decide (0 ≤ v1))
mutual
def m_impl_BindsValid_j2 (fuel : Nat) (x1 : (List Bind)) (g1 : Int) (v5 : Bind) (g11 : Bool) : Option Bool :=
 match fuel with
 | 0 => none
 | fuel + 1 =>
 (bif g11 then
 some false
 else
 (sub x1 0 g1).bind fun v14 =>
 (m_slices_ContainsFunc_Bind_BindsValid_1 fuel v14 v5).bind fun v15 =>
 (bif v15 then
 some false
 else
 m_impl_BindsValid_l1 fuel x1 (g1 + 1)))
def m_impl_BindsValid_l1 (fuel : Nat) (x1 : (List Bind)) (g1 : Int) : Option Bool :=
 match fuel with
 | 0 => none
 | fuel + 1 =>
 (bif (decide (g1 < (x1.length : Int))) then
 (idx x1 g1).bind fun v5 =>
 (m_impl_NameValid fuel v5.name).bind fun v6 =>
 (bif (!v6) then
 m_impl_BindsValid_j2 fuel x1 g1 v5 true
 else
 (m_impl_scopesOk fuel v5.scopes).bind fun v8 =>
 (bif (!v8) then
 m_impl_BindsValid_j2 fuel x1 g1 v5 true
 else
 (m_impl_within fuel v5.id 1 999).bind fun v10 =>
 m_impl_BindsValid_j2 fuel x1 g1 v5 (!v10)))
 else
 some (decide ((x1.length : Int) ≤ 60)))
end
def m_impl_BindsValid (fuel : Nat) (x1 : (List Bind)) : Option Bool :=
 m_impl_BindsValid_l1 fuel x1 0
def m_slices_Index_int_l1 (fuel : Nat) (x1 : (List Int)) (x2 : Int) (g1 : Int) : Option Int :=
 match fuel with
 | 0 => none
 | fuel + 1 =>
 (bif (decide (g1 < (x1.length : Int))) then
 (idx x1 g1).bind fun v5 =>
 (bif (decide (x2 = v5)) then
 some g1
 else
 m_slices_Index_int_l1 fuel x1 x2 (g1 + 1))
 else
 some (-1))
def m_slices_Index_int (fuel : Nat) (x1 : (List Int)) (x2 : Int) : Option Int :=
 m_slices_Index_int_l1 fuel x1 x2 0
def m_slices_Contains_int (fuel : Nat) (x1 : (List Int)) (x2 : Int) : Option Bool :=
 (m_slices_Index_int fuel x1 x2).bind fun v1 =>
 some (decide (0 ≤ v1))
def m_impl_ScopesWithin_1 (fuel : Nat) (x1 : Int) (o1 : (List Int)) : Option Bool :=
 (m_slices_Contains_int fuel o1 x1).bind fun v1 =>
 some (!v1)
def m_slices_IndexFunc_int_ScopesWithin_1_l1 (fuel : Nat) (x1 : (List Int)) (o1 : (List Int)) (g1 : Int) : Option Int :=
 match fuel with
 | 0 => none
 | fuel + 1 =>
 (bif (decide (g1 < (x1.length : Int))) then
 (idx x1 g1).bind fun v5 =>
 (m_impl_ScopesWithin_1 fuel v5 o1).bind fun v6 =>
 (bif v6 then
 some g1
 else
 m_slices_IndexFunc_int_ScopesWithin_1_l1 fuel x1 o1 (g1 + 1))
 else
 some (-1))
def m_slices_IndexFunc_int_ScopesWithin_1 (fuel : Nat) (x1 : (List Int)) (o1 : (List Int)) : Option Int :=
 m_slices_IndexFunc_int_ScopesWithin_1_l1 fuel x1 o1 0
def m_slices_ContainsFunc_int_ScopesWithin_1 (fuel : Nat) (x1 : (List Int)) (o1 : (List Int)) : Option Bool :=
 (m_slices_IndexFunc_int_ScopesWithin_1 fuel x1 o1).bind fun v1 =>
 some (decide (0 ≤ v1))
def m_impl_ScopesWithin (fuel : Nat) (x1 : (List Int)) (x2 : (List Int)) : Option Bool :=
 (m_slices_ContainsFunc_int_ScopesWithin_1 fuel x1 x2).bind fun v1 =>
 some (!v1)
mutual
def m_impl_fitting_j2 (fuel : Nat) (x1 : (List Bind)) (x2 : Form) (g1 : (List Int)) (g2 : Int) (g9 : Bool) : Option (List Int) :=
 match fuel with
 | 0 => none
 | fuel + 1 =>
 (bif g9 then
 chk (decide ((g1.length + [g2].length) * 8 ≤ 140737488355328)) <|
 m_impl_fitting_l1 fuel x1 x2 (g1 ++ [g2]) (g2 + 1)
 else
 m_impl_fitting_l1 fuel x1 x2 g1 (g2 + 1))
def m_impl_fitting_l1 (fuel : Nat) (x1 : (List Bind)) (x2 : Form) (g1 : (List Int)) (g2 : Int) : Option (List Int) :=
 match fuel with
 | 0 => none
 | fuel + 1 =>
 (bif (decide (g2 < (x1.length : Int))) then
 (idx x1 g2).bind fun v6 =>
 (bif (decide (v6.name = x2.name)) then
 (m_impl_ScopesWithin fuel v6.scopes x2.scopes).bind fun v8 =>
 m_impl_fitting_j2 fuel x1 x2 g1 g2 v8
 else
 m_impl_fitting_j2 fuel x1 x2 g1 g2 false)
 else
 some g1)
end
def m_impl_fitting (fuel : Nat) (x1 : (List Bind)) (x2 : Form) : Option (List Int) :=
 m_impl_fitting_l1 fuel x1 x2 ([] : List Int) 0
def m_impl_bound_1 (fuel : Nat) (x1 : Int) (o1 : (List Bind)) (o2 : Int) : Option Bool :=
 (idx o1 x1).bind fun v1 =>
 (idx o1 o2).bind fun v2 =>
 (m_impl_ScopesWithin fuel v1.scopes v2.scopes).bind fun v3 =>
 some (!v3)
def m_slices_IndexFunc_int_bound_1_l1 (fuel : Nat) (x1 : (List Int)) (o1 : (List Bind)) (o2 : Int) (g1 : Int) : Option Int :=
 match fuel with
 | 0 => none
 | fuel + 1 =>
 (bif (decide (g1 < (x1.length : Int))) then
 (idx x1 g1).bind fun v5 =>
 (m_impl_bound_1 fuel v5 o1 o2).bind fun v6 =>
 (bif v6 then
 some g1
 else
 m_slices_IndexFunc_int_bound_1_l1 fuel x1 o1 o2 (g1 + 1))
 else
 some (-1))
def m_slices_IndexFunc_int_bound_1 (fuel : Nat) (x1 : (List Int)) (o1 : (List Bind)) (o2 : Int) : Option Int :=
 m_slices_IndexFunc_int_bound_1_l1 fuel x1 o1 o2 0
def m_slices_ContainsFunc_int_bound_1 (fuel : Nat) (x1 : (List Int)) (o1 : (List Bind)) (o2 : Int) : Option Bool :=
 (m_slices_IndexFunc_int_bound_1 fuel x1 o1 o2).bind fun v1 =>
 some (decide (0 ≤ v1))
def m_impl_bound_l1 (fuel : Nat) (x1 : (List Bind)) (v1 : (List Int)) (g3 : Int) : Option (Int × Int) :=
 match fuel with
 | 0 => none
 | fuel + 1 =>
 (bif (decide (g3 < (v1.length : Int))) then
 (idx v1 g3).bind fun v7 =>
 (m_slices_ContainsFunc_int_bound_1 fuel v1 x1 v7).bind fun v8 =>
 (bif (!v8) then
 some (v7, 1)
 else
 m_impl_bound_l1 fuel x1 v1 (g3 + 1))
 else
 some (0, 2))
def m_impl_bound (fuel : Nat) (x1 : (List Bind)) (x2 : Form) : Option (Int × Int) :=
 (m_impl_fitting fuel x1 x2).bind fun v1 =>
 (bif (decide ((v1.length : Int) = 0)) then
 some (0, 0)
 else
 m_impl_bound_l1 fuel x1 v1 0)
def m_impl_FindName_j1 (fuel : Nat) (x1 : (List Bind)) (x2 : Form) (g4 : Bool) : Option (Int × Int) :=
 match fuel with
 | 0 => none
 | fuel + 1 =>
 (bif g4 then
 some (0, 0)
 else
 (m_impl_bound fuel x1 x2).bind fun v7 =>
 (bif (decide (v7.2 ≠ 1)) then
 some (0, v7.2)
 else
 (idx x1 v7.1).bind fun v9 =>
 some (v9.id, 1)))
def m_impl_FindName (fuel : Nat) (x1 : (List Bind)) (x2 : Form) : Option (Int × Int) :=
 (m_impl_BindsValid fuel x1).bind fun v1 =>
 (bif (!v1) then
 m_impl_FindName_j1 fuel x1 x2 true
 else
 (m_impl_isName fuel x2).bind fun v3 =>
 m_impl_FindName_j1 fuel x1 x2 (!v3))
end Go.Abs
