/- A part of the proof: what the functions that the law calls answer, as pure values. -/
import Derived.Test.YtgicgbokgmmgdaaGreatK9755d113d921
import Derived.Test.YtgicgbokgmmgdaaGreatKbdf8494f7d88
import Derived.Test.YtgicgbokgmmgdaaGreatKcf6e923ba96b
set_option linter.unusedSimpArgs false
set_option linter.unusedVariables false
set_option maxHeartbeats 4000000
namespace Go.Abs
mutual
def m_spec_l1Some (fuel : Nat) (o1 : l15Rd) (x2 : Int) : Option (Form × l15Rd) :=
 match fuel with
 | 0 => none
 | fuel + 1 =>
 (bif (decide (x2 = 0)) then
 (m_spec_l15Rd_pick fuel o1 4).bind fun v2 =>
 (bif (decide (v2.1 = 0)) then
 (m_spec_l15Rd_num fuel v2.2 [0, 1, 2, 7, 42, 999]).bind fun v4 =>
 some ((Form.mk 2 (⟨#[]⟩ : ByteArray) v4.1 ([] : List Int) ([] : List Form)), v4.2)
 else
 (m_spec_l15Rd_of fuel v2.2 [(⟨#[97]⟩ : ByteArray), (⟨#[98]⟩ : ByteArray), (⟨#[120]⟩ : ByteArray), (⟨#[121]⟩ : ByteArray), (⟨#[102]⟩ : ByteArray), (⟨#[105, 102]⟩ : ByteArray), (⟨#[108, 101, 116]⟩ : ByteArray), (⟨#[43]⟩ : ByteArray)]).bind fun v5 =>
 (m_spec_l1Name fuel v5.1).bind fun v6 =>
 some (v6, v5.2))
 else
 (m_spec_l15Rd_pick fuel o1 3).bind fun v7 =>
 (bif (decide (v7.1 = 0)) then
 (m_spec_l15Rd_pick fuel v7.2 4).bind fun v9 =>
 (bif (decide (v9.1 = 0)) then
 (m_spec_l15Rd_num fuel v9.2 [0, 1, 2, 7, 42, 999]).bind fun v11 =>
 some ((Form.mk 2 (⟨#[]⟩ : ByteArray) v11.1 ([] : List Int) ([] : List Form)), v11.2)
 else
 (m_spec_l15Rd_of fuel v9.2 [(⟨#[97]⟩ : ByteArray), (⟨#[98]⟩ : ByteArray), (⟨#[120]⟩ : ByteArray), (⟨#[121]⟩ : ByteArray), (⟨#[102]⟩ : ByteArray), (⟨#[105, 102]⟩ : ByteArray), (⟨#[108, 101, 116]⟩ : ByteArray), (⟨#[43]⟩ : ByteArray)]).bind fun v12 =>
 (m_spec_l1Name fuel v12.1).bind fun v13 =>
 some (v13, v12.2))
 else
 (m_spec_l15Rd_pick fuel v7.2 4).bind fun v14 =>
 m_spec_l1Some_l1 fuel x2 v14.1 v14.2.b v14.2.p ([] : List Form)))
def m_spec_l1Some_l1 (fuel : Nat) (x2 : Int) (g15 : Int) (g16 : (List Int)) (g17 : Int) (g18 : (List Form)) : Option (Form × l15Rd) :=
 match fuel with
 | 0 => none
 | fuel + 1 =>
 (bif (decide (0 < g15)) then
 (m_spec_l1Some fuel (l15Rd.mk g16 g17) (w64 (x2 - 1))).bind fun v21 =>
 chk (decide ((g18.length + [v21.1].length) * 80 ≤ 140737488355328)) <|
 m_spec_l1Some_l1 fuel x2 (w64 (g15 - 1)) v21.2.b v21.2.p (g18 ++ [v21.1])
 else
 some ((Form.mk 3 (⟨#[]⟩ : ByteArray) 0 ([] : List Int) g18), (l15Rd.mk g16 g17)))
end
def m_spec_l5Hits (fuel : Nat) (x1 : (List Int)) : Option (Form × (List Hit)) :=
 (m_spec_l5Case fuel x1).bind fun v1 =>
 (m_spec_l15Open fuel x1).bind fun v2 =>
 (m_spec_FirstRule fuel ([] : List Bind) v1.2.1 v1.1 v1.2.2).bind fun v3 =>
 (bif (!v3.2) then
 (m_spec_l1Some fuel v2 2).bind fun v5 =>
 some (v5.1, ([] : List Hit))
 else
 (idx v1.2.1 v3.1).bind fun v6 =>
 (m_spec_MatchPattern fuel ([] : List Bind) v6.pattern v1.1 v1.2.2).bind fun v7 =>
 (idx v1.2.1 v3.1).bind fun v8 =>
 (m_spec_l1Copy fuel v8.template).bind fun v9 =>
 (m_spec_l15Rd_pick fuel v2 12).bind fun v10 =>
 (bif (decide (v10.1 = 0)) then
 (m_spec_l1Mutate fuel v10.2 v9).bind fun v12 =>
 (m_spec_l1Mutate fuel v12.2 v12.1).bind fun v13 =>
 some (v13.1, v7.1)
 else
 (bif (decide (v10.1 = 1)) then
 (m_spec_l15Rd_of fuel v10.2 [(⟨#[40, 97, 32, 46, 46, 46, 41]⟩ : ByteArray), (⟨#[40, 120, 32, 46, 46, 46, 32, 46, 46, 46, 41]⟩ : ByteArray), (⟨#[46, 46, 46]⟩ : ByteArray), (⟨#[40, 49, 32, 46, 46, 46, 41]⟩ : ByteArray), (⟨#[40, 113, 32, 40, 97, 32, 98, 41, 32, 46, 46, 46, 41]⟩ : ByteArray)]).bind fun v15 =>
 (m_spec_l1Parse fuel v15.1).bind fun v16 =>
 some (v16, v7.1)
 else
 some (v9, v7.1))))
def m_spec_DrawTemplateValid (fuel : Nat) (x1 : (List Int)) : Option (Form × (List Hit)) :=
 (m_spec_l5Hits fuel x1).bind fun v1 =>
 some (v1.1, v1.2)
def m_slices_Index_string_l1 (fuel : Nat) (x1 : (List ByteArray)) (x2 : ByteArray) (g1 : Int) : Option Int :=
 match fuel with
 | 0 => none
 | fuel + 1 =>
 (bif (decide (g1 < (x1.length : Int))) then
 (idx x1 g1).bind fun v5 =>
 (bif (decide (x2 = v5)) then
 some g1
 else
 m_slices_Index_string_l1 fuel x1 x2 (g1 + 1))
 else
 some (-1))
def m_slices_Index_string (fuel : Nat) (x1 : (List ByteArray)) (x2 : ByteArray) : Option Int :=
 m_slices_Index_string_l1 fuel x1 x2 0
def m_slices_Contains_string (fuel : Nat) (x1 : (List ByteArray)) (x2 : ByteArray) : Option Bool :=
 (m_slices_Index_string fuel x1 x2).bind fun v1 =>
 some (decide (0 ≤ v1))
def m_impl_NamesOf_1 (fuel : Nat) (x1 : Form) (o1 : (List ByteArray)) : Option (List ByteArray) :=
 (bif (decide (x1.kind = 1)) then
 (m_slices_Contains_string fuel o1 x1.name).bind fun v2 =>
 (bif (!v2) then
 chk (decide ((o1.length + [x1.name].length) * 16 ≤ 140737488355328)) <|
 some (o1 ++ [x1.name])
 else
 some o1)
 else
 some o1)
mutual
def m_impl_eachForm_NamesOf_1 (fuel : Nat) (x1 : Form) (o1 : (List ByteArray)) : Option (List ByteArray) :=
 match fuel with
 | 0 => none
 | fuel + 1 =>
 (m_impl_NamesOf_1 fuel x1 o1).bind fun v1 =>
 m_impl_eachForm_NamesOf_1_l1 fuel x1 0 v1
def m_impl_eachForm_NamesOf_1_l1 (fuel : Nat) (x1 : Form) (g2 : Int) (g3 : (List ByteArray)) : Option (List ByteArray) :=
 match fuel with
 | 0 => none
 | fuel + 1 =>
 (bif (decide (g2 < (x1.kids.length : Int))) then
 (idx x1.kids g2).bind fun v7 =>
 (m_impl_eachForm_NamesOf_1 fuel v7 g3).bind fun v8 =>
 m_impl_eachForm_NamesOf_1_l1 fuel x1 (g2 + 1) v8
 else
 some g3)
end
def m_impl_NamesOf (fuel : Nat) (x1 : Form) : Option (List ByteArray) :=
 (m_impl_eachForm_NamesOf_1 fuel x1 ([] : List ByteArray)).bind fun v1 =>
 some v1
def m_laws_mxHasText_l1 (fuel : Nat) (x1 : (List ByteArray)) (x2 : ByteArray) (g1 : Int) : Option Bool :=
 match fuel with
 | 0 => none
 | fuel + 1 =>
 (bif (decide (g1 < (x1.length : Int))) then
 (idx x1 g1).bind fun v5 =>
 (bif (decide (v5 = x2)) then
 some true
 else
 m_laws_mxHasText_l1 fuel x1 x2 (g1 + 1))
 else
 some false)
def m_laws_mxHasText (fuel : Nat) (x1 : (List ByteArray)) (x2 : ByteArray) : Option Bool :=
 m_laws_mxHasText_l1 fuel x1 x2 0
mutual
def m_laws_FnTemplateValid_j2 (fuel : Nat) (g15 : Bool) : Option Bool :=
 match fuel with
 | 0 => none
 | fuel + 1 =>
 some g15
def m_laws_FnTemplateValid_l3 (fuel : Nat) (v3 : Form × (List Hit)) (v4 : Bool) (g20 : Bool) (g21 : Int) : Option Bool :=
 match fuel with
 | 0 => none
 | fuel + 1 =>
 (bif (decide (g21 < (v3.2.length : Int))) then
 (bif g20 then
 m_laws_FnTemplateValid_l3 fuel v3 v4 true (g21 + 1)
 else
 (idx v3.2 g21).bind fun v26 =>
 (bif (decide (0 < v26.depth)) then
 (idx v3.2 g21).bind fun v28 =>
 (m_laws_mxPart fuel v3.1 v28.name).bind fun v29 =>
 m_laws_FnTemplateValid_l3 fuel v3 v4 v29 (g21 + 1)
 else
 m_laws_FnTemplateValid_l3 fuel v3 v4 false (g21 + 1)))
 else
 some (decide (v4 = (!g20))))
def m_laws_FnTemplateValid_j1 (fuel : Nat) (v3 : Form × (List Hit)) (v4 : Bool) (g10 : Bool) : Option Bool :=
 match fuel with
 | 0 => none
 | fuel + 1 =>
 (bif g10 then
 (m_spec_TemplateValid fuel v3.1 v3.2).bind fun v13 =>
 (bif (decide (v4 = v13)) then
 m_laws_FnTemplateValid_j2 fuel  (!v4)
 else
 m_laws_FnTemplateValid_j2 fuel  false)
 else
 (m_impl_NamesOf fuel v3.1).bind fun v17 =>
 (m_laws_mxHasText fuel v17 (⟨#[46, 46, 46]⟩ : ByteArray)).bind fun v18 =>
 (bif v18 then
 some true
 else
 m_laws_FnTemplateValid_l3 fuel v3 v4 false 0))
end
def m_laws_FnTemplateValid (fuel : Nat) (x1 : (List Int)) : Option Bool :=
 (bif (decide (1048576 < (x1.length : Int))) then
 some true
 else
 (m_spec_DrawTemplateValid fuel x1).bind fun v3 =>
 (m_impl_TemplateValid fuel v3.1 v3.2).bind fun v4 =>
 (m_spec_TemplateValid fuel v3.1 v3.2).bind fun v5 =>
 (bif (decide (v4 ≠ v5)) then
 m_laws_FnTemplateValid_j1 fuel v3 v4 true
 else
 (m_impl_FormValid fuel v3.1).bind fun v7 =>
 (bif (!v7) then
 m_laws_FnTemplateValid_j1 fuel v3 v4 true
 else
 (m_impl_HitsValid fuel v3.2).bind fun v9 =>
 m_laws_FnTemplateValid_j1 fuel v3 v4 (!v9))))
end Go.Abs
