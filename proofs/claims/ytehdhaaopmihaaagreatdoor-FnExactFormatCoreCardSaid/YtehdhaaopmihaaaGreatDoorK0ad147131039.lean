/- A part of the proof: what the functions that the law calls answer, as pure values. -/
import Derived.Test.YtehdhaaopmihaaaGreatDoorK2fa2763a6b98
import Derived.Test.YtehdhaaopmihaaaGreatDoorKdaf94b7ba384
set_option linter.unusedSimpArgs false
set_option linter.unusedVariables false
set_option maxHeartbeats 4000000
namespace Go.Abs
mutual
def m_spec_l6Text (fuel : Nat) (x1 : Core) : Option ByteArray :=
 match fuel with
 | 0 => none
 | fuel + 1 =>
 (bif (decide (x1.kind = 1)) then
 (m_spec_l15Dec fuel x1.id).bind fun v2 =>
 (bcat (⟨#[35]⟩ : ByteArray) v2).bind fun v3 =>
 some v3
 else
 (bif (decide (x1.kind = 2)) then
 some x1.name
 else
 (bif (decide (x1.kind = 3)) then
 (m_spec_l15Dec fuel x1.n).bind fun v6 =>
 some v6
 else
 (bif (decide (x1.kind = 4)) then
 (m_spec_l1Text fuel x1.data).bind fun v8 =>
 (bcat (⟨#[39]⟩ : ByteArray) v8).bind fun v9 =>
 some v9
 else
 (bif (decide (x1.kind = 7)) then
 m_spec_l6Text_j1 fuel x1 (⟨#[40, 105, 102, 32]⟩ : ByteArray)
 else
 m_spec_l6Text_j1 fuel x1 (⟨#[40]⟩ : ByteArray))))))
def m_spec_l6Text_j4 (fuel : Nat) (x1 : Core) (g15 : Int) (g21 : ByteArray) : Option ByteArray :=
 match fuel with
 | 0 => none
 | fuel + 1 =>
 (bcat g21 (⟨#[35]⟩ : ByteArray)).bind fun v23 =>
 (idx x1.ids g15).bind fun v24 =>
 (m_spec_l15Dec fuel v24).bind fun v25 =>
 (bcat v23 v25).bind fun v26 =>
 m_spec_l6Text_l3 fuel x1 v26 (g15 + 1)
def m_spec_l6Text_l3 (fuel : Nat) (x1 : Core) (g14 : ByteArray) (g15 : Int) : Option ByteArray :=
 match fuel with
 | 0 => none
 | fuel + 1 =>
 (bif (decide (g15 < (x1.ids.length : Int))) then
 (bif (decide (0 < g15)) then
 (bcat g14 (⟨#[32]⟩ : ByteArray)).bind fun v20 =>
 m_spec_l6Text_j4 fuel x1 g15 v20
 else
 m_spec_l6Text_j4 fuel x1 g15 g14)
 else
 (bcat g14 (⟨#[41, 32]⟩ : ByteArray)).bind fun v27 =>
 m_spec_l6Text_j2 fuel x1 v27)
def m_spec_l6Text_j6 (fuel : Nat) (x1 : Core) (g31 : Int) (g37 : ByteArray) : Option ByteArray :=
 match fuel with
 | 0 => none
 | fuel + 1 =>
 (idx x1.kids g31).bind fun v39 =>
 (m_spec_l6Text fuel v39).bind fun v40 =>
 (bcat g37 v40).bind fun v41 =>
 m_spec_l6Text_l5 fuel x1 v41 (g31 + 1)
def m_spec_l6Text_l5 (fuel : Nat) (x1 : Core) (g30 : ByteArray) (g31 : Int) : Option ByteArray :=
 match fuel with
 | 0 => none
 | fuel + 1 =>
 (bif (decide (g31 < (x1.kids.length : Int))) then
 (bif (decide (0 < g31)) then
 (bcat g30 (⟨#[32]⟩ : ByteArray)).bind fun v36 =>
 m_spec_l6Text_j6 fuel x1 g31 v36
 else
 m_spec_l6Text_j6 fuel x1 g31 g30)
 else
 (bcat g30 (⟨#[41]⟩ : ByteArray)).bind fun v42 =>
 some v42)
def m_spec_l6Text_j2 (fuel : Nat) (x1 : Core) (g28 : ByteArray) : Option ByteArray :=
 match fuel with
 | 0 => none
 | fuel + 1 =>
 m_spec_l6Text_l5 fuel x1 g28 0
def m_spec_l6Text_j1 (fuel : Nat) (x1 : Core) (g11 : ByteArray) : Option ByteArray :=
 match fuel with
 | 0 => none
 | fuel + 1 =>
 (bif (decide (x1.kind = 5)) then
 m_spec_l6Text_l3 fuel x1 (⟨#[40, 102, 117, 110, 32, 40]⟩ : ByteArray) 0
 else
 m_spec_l6Text_j2 fuel x1 g11)
end
def m_spec_FormatCore (fuel : Nat) (x1 : Core) : Option ByteArray :=
 (m_spec_CoreValid fuel x1).bind fun v1 =>
 (bif (!v1) then
 some (⟨#[]⟩ : ByteArray)
 else
 (m_spec_l6Text fuel x1).bind fun v3 =>
 some v3)
def m_strings_Join (fuel : Nat) (x1 : List ByteArray) (x2 : ByteArray) : Option ByteArray :=
 chk (decide (x1.length ≤ 140737488355328)) <|
 chk (decide ((Lib.join (x1.map fun s => s.data.toList) x2.data.toList).length ≤ 140737488355328)) <|
 some ⟨(Lib.join (x1.map fun s => s.data.toList) x2.data.toList).toArray⟩
def m_strconv_Itoa (fuel : Nat) (x1 : Int) : Option ByteArray :=
 chk (decide (-9223372036854775808 ≤ x1)) <|
 chk (decide (x1 ≤ 9223372036854775807)) <|
 some ⟨(Lib.itoa x1).toArray⟩
mutual
def m_impl_formText (fuel : Nat) (x1 : Form) : Option ByteArray :=
 match fuel with
 | 0 => none
 | fuel + 1 =>
 (bif (decide (x1.kind = 1)) then
 (bif (decide ((x1.scopes.length : Int) = 0)) then
 some x1.name
 else
 m_impl_formText_l2 fuel x1 ([] : List ByteArray) 0)
 else
 (bif (decide (x1.kind = 2)) then
 (m_strconv_Itoa fuel x1.n).bind fun v18 =>
 some v18
 else
 m_impl_formText_l3 fuel x1 ([] : List ByteArray) 0))
def m_impl_formText_l2 (fuel : Nat) (x1 : Form) (g3 : (List ByteArray)) (g4 : Int) : Option ByteArray :=
 match fuel with
 | 0 => none
 | fuel + 1 =>
 (bif (decide (g4 < (x1.scopes.length : Int))) then
 (idx x1.scopes g4).bind fun v8 =>
 (m_strconv_Itoa fuel v8).bind fun v9 =>
 chk (decide ((g3.length + [v9].length) * 16 ≤ 140737488355328)) <|
 m_impl_formText_l2 fuel x1 (g3 ++ [v9]) (g4 + 1)
 else
 m_impl_formText_j1 fuel x1 g3)
def m_impl_formText_j1 (fuel : Nat) (x1 : Form) (g11 : (List ByteArray)) : Option ByteArray :=
 match fuel with
 | 0 => none
 | fuel + 1 =>
 (bcat x1.name (⟨#[123]⟩ : ByteArray)).bind fun v13 =>
 (m_strings_Join fuel g11 (⟨#[44]⟩ : ByteArray)).bind fun v14 =>
 (bcat v13 v14).bind fun v15 =>
 (bcat v15 (⟨#[125]⟩ : ByteArray)).bind fun v16 =>
 some v16
def m_impl_formText_l3 (fuel : Nat) (x1 : Form) (g19 : (List ByteArray)) (g20 : Int) : Option ByteArray :=
 match fuel with
 | 0 => none
 | fuel + 1 =>
 (bif (decide (g20 < (x1.kids.length : Int))) then
 (idx x1.kids g20).bind fun v24 =>
 (m_impl_formText fuel v24).bind fun v25 =>
 chk (decide ((g19.length + [v25].length) * 16 ≤ 140737488355328)) <|
 m_impl_formText_l3 fuel x1 (g19 ++ [v25]) (g20 + 1)
 else
 (m_strings_Join fuel g19 (⟨#[32]⟩ : ByteArray)).bind fun v27 =>
 (bcat (⟨#[40]⟩ : ByteArray) v27).bind fun v28 =>
 (bcat v28 (⟨#[41]⟩ : ByteArray)).bind fun v29 =>
 some v29)
end
mutual
def m_impl_coreText (fuel : Nat) (x1 : Core) : Option ByteArray :=
 match fuel with
 | 0 => none
 | fuel + 1 =>
 m_impl_coreText_l2 fuel x1 ([] : List ByteArray) 0
def m_impl_coreText_l2 (fuel : Nat) (x1 : Core) (g1 : (List ByteArray)) (g2 : Int) : Option ByteArray :=
 match fuel with
 | 0 => none
 | fuel + 1 =>
 (bif (decide (g2 < (x1.kids.length : Int))) then
 (idx x1.kids g2).bind fun v6 =>
 (m_impl_coreText fuel v6).bind fun v7 =>
 chk (decide ((g1.length + [v7].length) * 16 ≤ 140737488355328)) <|
 m_impl_coreText_l2 fuel x1 (g1 ++ [v7]) (g2 + 1)
 else
 m_impl_coreText_j1 fuel x1 g1)
def m_impl_coreText_l4 (fuel : Nat) (x1 : Core) (v11 : ByteArray) (g22 : (List ByteArray)) (g23 : Int) : Option ByteArray :=
 match fuel with
 | 0 => none
 | fuel + 1 =>
 (bif (decide (g23 < (x1.ids.length : Int))) then
 (idx x1.ids g23).bind fun v27 =>
 (m_strconv_Itoa fuel v27).bind fun v28 =>
 (bcat (⟨#[35]⟩ : ByteArray) v28).bind fun v29 =>
 chk (decide ((g22.length + [v29].length) * 16 ≤ 140737488355328)) <|
 m_impl_coreText_l4 fuel x1 v11 (g22 ++ [v29]) (g23 + 1)
 else
 m_impl_coreText_j3 fuel v11 g22)
def m_impl_coreText_j3 (fuel : Nat) (v11 : ByteArray) (g31 : (List ByteArray)) : Option ByteArray :=
 match fuel with
 | 0 => none
 | fuel + 1 =>
 (m_strings_Join fuel g31 (⟨#[32]⟩ : ByteArray)).bind fun v33 =>
 (bcat (⟨#[40, 102, 117, 110, 32, 40]⟩ : ByteArray) v33).bind fun v34 =>
 (bcat v34 (⟨#[41, 32]⟩ : ByteArray)).bind fun v35 =>
 (bcat v35 v11).bind fun v36 =>
 (bcat v36 (⟨#[41]⟩ : ByteArray)).bind fun v37 =>
 some v37
def m_impl_coreText_j1 (fuel : Nat) (x1 : Core) (g9 : (List ByteArray)) : Option ByteArray :=
 match fuel with
 | 0 => none
 | fuel + 1 =>
 (m_strings_Join fuel g9 (⟨#[32]⟩ : ByteArray)).bind fun v11 =>
 (bif (decide (x1.kind = 1)) then
 (m_strconv_Itoa fuel x1.id).bind fun v13 =>
 (bcat (⟨#[35]⟩ : ByteArray) v13).bind fun v14 =>
 some v14
 else
 (bif (decide (x1.kind = 2)) then
 some x1.name
 else
 (bif (decide (x1.kind = 3)) then
 (m_strconv_Itoa fuel x1.n).bind fun v17 =>
 some v17
 else
 (bif (decide (x1.kind = 4)) then
 (m_impl_formText fuel x1.data).bind fun v19 =>
 (bcat (⟨#[39]⟩ : ByteArray) v19).bind fun v20 =>
 some v20
 else
 (bif (decide (x1.kind = 5)) then
 m_impl_coreText_l4 fuel x1 v11 ([] : List ByteArray) 0
 else
 (bif (decide (x1.kind = 6)) then
 (bcat (⟨#[40]⟩ : ByteArray) v11).bind fun v39 =>
 (bcat v39 (⟨#[41]⟩ : ByteArray)).bind fun v40 =>
 some v40
 else
 (bcat (⟨#[40, 105, 102, 32]⟩ : ByteArray) v11).bind fun v41 =>
 (bcat v41 (⟨#[41]⟩ : ByteArray)).bind fun v42 =>
 some v42))))))
end
def m_impl_FormatCore (fuel : Nat) (x1 : Core) : Option ByteArray :=
 (m_impl_CoreValid fuel x1).bind fun v1 =>
 (bif (!v1) then
 some (⟨#[]⟩ : ByteArray)
 else
 (m_impl_coreText fuel x1).bind fun v3 =>
 some v3)
def m_laws_FnExactFormatCore (fuel : Nat) (x1 : Core) : Option Bool :=
 (m_laws_szCore fuel x1 1048576).bind fun v1 =>
 (bif (decide (v1 < 0)) then
 some true
 else
 (m_laws_toCore fuel x1).bind fun v3 =>
 (m_spec_FormatCore fuel v3).bind fun v4 =>
 (m_laws_toCore fuel x1).bind fun v5 =>
 (m_impl_FormatCore fuel v5).bind fun v6 =>
 (bif (decide (v6 ≠ v4)) then
 some false
 else
 (m_laws_toCore fuel x1).bind fun v8 =>
 (m_laws_eqCore fuel v5 v8).bind fun v9 =>
 (bif (!v9) then
 some false
 else
 some true)))
end Go.Abs
