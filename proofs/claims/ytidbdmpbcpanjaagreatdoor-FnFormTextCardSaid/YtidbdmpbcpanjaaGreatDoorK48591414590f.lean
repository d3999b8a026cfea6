/- A part of the proof: what the functions that the law calls answer, as pure values. -/
import Derived.Test.YtidbdmpbcpanjaaGreatDoorK064a2fe3a5b4
import Derived.Test.YtidbdmpbcpanjaaGreatDoorK10a31c29eeb6
set_option linter.unusedSimpArgs false
set_option linter.unusedVariables false
set_option maxHeartbeats 4000000
namespace Go.Abs
mutual
def m_impl_scan_form (fuel : Nat) (o1 : scan) (x2 : Int) : Option (Form × Bool × scan) :=
 match fuel with
 | 0 => none
 | fuel + 1 =>
 (m_impl_scan_blanks fuel o1).bind fun v1 =>
 (bif (decide (v1.2.s = (⟨#[]⟩ : ByteArray))) then
 m_impl_scan_form_j1 fuel x2 v1 true
 else
 m_impl_scan_form_j1 fuel x2 v1 (decide (40 < x2)))
def m_impl_scan_form_j5 (fuel : Nat) (x2 : Int) (g12 : (List Form)) (g17 : ByteArray) (g18 : Bool) (g29 : Bool) : Option (Form × Bool × scan) :=
 match fuel with
 | 0 => none
 | fuel + 1 =>
 (bif g29 then
 some ((Form.mk 0 (⟨#[]⟩ : ByteArray) 0 ([] : List Int) ([] : List Form)), false, (scan.mk g17 true))
 else
 (m_impl_scan_form fuel (scan.mk g17 g18) (w64 (x2 + 1))).bind fun v32 =>
 chk (decide ((g12.length + [v32.1].length) * 80 ≤ 140737488355328)) <|
 m_impl_scan_form_l2 fuel x2 v32.2.1 v32.2.2.s v32.2.2.bad (g12 ++ [v32.1]))
def m_impl_scan_form_j4 (fuel : Nat) (x2 : Int) (g12 : (List Form)) (g16 : Bool) (g17 : ByteArray) (g18 : Bool) (g21 : Bool) : Option (Form × Bool × scan) :=
 match fuel with
 | 0 => none
 | fuel + 1 =>
 (bif g21 then
 some ((Form.mk 0 (⟨#[]⟩ : ByteArray) 0 ([] : List Int) ([] : List Form)), false, (scan.mk g17 true))
 else
 (bidx g17 0).bind fun v24 =>
 (bif (decide (v24 = 41)) then
 (bsub g17 1 (g17.size : Int)).bind fun v26 =>
 some ((Form.mk 3 (⟨#[]⟩ : ByteArray) 0 ([] : List Int) g12), true, (scan.mk v26 g18))
 else
 (bif (!g16) then
 (bidx g17 0).bind fun v28 =>
 m_impl_scan_form_j5 fuel x2 g12 g17 g18 (decide (v28 ≠ 40))
 else
 m_impl_scan_form_j5 fuel x2 g12 g17 g18 false)))
def m_impl_scan_form_j3 (fuel : Nat) (x2 : Int) (g12 : (List Form)) (g16 : Bool) (g17 : ByteArray) (g18 : Bool) : Option (Form × Bool × scan) :=
 match fuel with
 | 0 => none
 | fuel + 1 =>
 (bif g18 then
 m_impl_scan_form_j4 fuel x2 g12 g16 g17 g18 true
 else
 m_impl_scan_form_j4 fuel x2 g12 g16 g17 g18 (decide (g17 = (⟨#[]⟩ : ByteArray))))
def m_impl_scan_form_l2 (fuel : Nat) (x2 : Int) (g9 : Bool) (g10 : ByteArray) (g11 : Bool) (g12 : (List Form)) : Option (Form × Bool × scan) :=
 match fuel with
 | 0 => none
 | fuel + 1 =>
 (m_impl_scan_blanks fuel (scan.mk g10 g11)).bind fun v14 =>
 (bif v14.1 then
 m_impl_scan_form_j3 fuel x2 g12 true v14.2.s v14.2.bad
 else
 m_impl_scan_form_j3 fuel x2 g12 g9 v14.2.s v14.2.bad)
def m_impl_scan_form_j8 (fuel : Nat) (v34 : ByteArray × scan) (v41 : ByteArray × ByteArray × Bool) (v45 : (List ByteArray)) (g46 : Int) (g48 : (List Int)) (v53 : Int × Bool) (g55 : Bool) : Option (Form × Bool × scan) :=
 match fuel with
 | 0 => none
 | fuel + 1 =>
 chk (decide ((g48.length + [v53.1].length) * 8 ≤ 140737488355328)) <|
 m_impl_scan_form_l7 fuel v34 v41 v45 (g46 + 1) g55 (g48 ++ [v53.1])
def m_impl_scan_form_l7 (fuel : Nat) (v34 : ByteArray × scan) (v41 : ByteArray × ByteArray × Bool) (v45 : (List ByteArray)) (g46 : Int) (g47 : Bool) (g48 : (List Int)) : Option (Form × Bool × scan) :=
 match fuel with
 | 0 => none
 | fuel + 1 =>
 (bif (decide (g46 < (v45.length : Int))) then
 (idx v45 g46).bind fun v52 =>
 (m_impl_number fuel v52 99).bind fun v53 =>
 (bif g47 then
 m_impl_scan_form_j8 fuel v34 v41 v45 g46 g48 v53 true
 else
 m_impl_scan_form_j8 fuel v34 v41 v45 g46 g48 v53 (!v53.2))
 else
 some ((Form.mk 1 v34.1 0 g48 ([] : List Form)), true, (scan.mk v41.2.1 g47)))
def m_impl_scan_form_j6 (fuel : Nat) (v34 : ByteArray × scan) (v41 : ByteArray × ByteArray × Bool) (g43 : Bool) : Option (Form × Bool × scan) :=
 match fuel with
 | 0 => none
 | fuel + 1 =>
 (m_strings_Split fuel v41.1 (⟨#[44]⟩ : ByteArray)).bind fun v45 =>
 m_impl_scan_form_l7 fuel v34 v41 v45 0 g43 ([] : List Int)
def m_impl_scan_form_j1 (fuel : Nat) (x2 : Int) (v1 : Bool × scan) (g3 : Bool) : Option (Form × Bool × scan) :=
 match fuel with
 | 0 => none
 | fuel + 1 =>
 (bif g3 then
 some ((Form.mk 0 (⟨#[]⟩ : ByteArray) 0 ([] : List Int) ([] : List Form)), false, (scan.mk v1.2.s true))
 else
 (bidx v1.2.s 0).bind fun v6 =>
 (bif (decide (v6 = 40)) then
 (bsub v1.2.s 1 (v1.2.s.size : Int)).bind fun v8 =>
 m_impl_scan_form_l2 fuel x2 true v8 v1.2.bad ([] : List Form)
 else
 (m_impl_scan_word fuel v1.2).bind fun v34 =>
 (m_impl_number fuel v34.1 999).bind fun v35 =>
 (bif v35.2 then
 some ((Form.mk 2 (⟨#[]⟩ : ByteArray) v35.1 ([] : List Int) ([] : List Form)), false, v34.2)
 else
 (m_impl_NameValid fuel v34.1).bind fun v37 =>
 (bif (!v37) then
 some ((Form.mk 0 (⟨#[]⟩ : ByteArray) 0 ([] : List Int) ([] : List Form)), false, (scan.mk v34.2.s true))
 else
 (m_strings_CutPrefix fuel v34.2.s (⟨#[123]⟩ : ByteArray)).bind fun v39 =>
 (bif (!v39.2) then
 some ((Form.mk 1 v34.1 0 ([] : List Int) ([] : List Form)), false, v34.2)
 else
 (m_strings_Cut fuel v39.1 (⟨#[125]⟩ : ByteArray)).bind fun v41 =>
 (bif v34.2.bad then
 m_impl_scan_form_j6 fuel v34 v41 true
 else
 m_impl_scan_form_j6 fuel v34 v41 (!v41.2.2)))))))
end
def m_impl_ParseForm (fuel : Nat) (x1 : ByteArray) : Option (Form × Bool) :=
 (m_impl_scan_form fuel (scan.mk x1 false) 1).bind fun v1 =>
 (m_impl_scan_blanks fuel v1.2.2).bind fun v2 =>
 (bif v2.2.bad then
 some ((Form.mk 0 (⟨#[]⟩ : ByteArray) 0 ([] : List Int) ([] : List Form)), false)
 else
 (bif (decide (v2.2.s ≠ (⟨#[]⟩ : ByteArray))) then
 some ((Form.mk 0 (⟨#[]⟩ : ByteArray) 0 ([] : List Int) ([] : List Form)), false)
 else
 (m_impl_FormValid fuel v1.1).bind fun v5 =>
 (bif (!v5) then
 some ((Form.mk 0 (⟨#[]⟩ : ByteArray) 0 ([] : List Int) ([] : List Form)), false)
 else
 some (v1.1, true))))
def m_spec_l1Bend_j1 (fuel : Nat) (x2 : ByteArray) (x3 : (List ByteArray)) (g3 : Bool) (g4 : (List Int)) (g5 : Int) : Option (ByteArray × l15Rd) :=
 match fuel with
 | 0 => none
 | fuel + 1 =>
 (bif g3 then
 some (x2, (l15Rd.mk g4 g5))
 else
 (m_spec_l15Rd_pick fuel (l15Rd.mk g4 g5) (x2.size : Int)).bind fun v8 =>
 (bsub x2 0 v8.1).bind fun v9 =>
 (m_spec_l15Rd_of fuel v8.2 x3).bind fun v10 =>
 (bcat v9 v10.1).bind fun v11 =>
 (m_spec_l15Rd_pick fuel v10.2 2).bind fun v12 =>
 (bsub x2 (w64 (v8.1 + v12.1)) (x2.size : Int)).bind fun v13 =>
 (bcat v11 v13).bind fun v14 =>
 some (v14, v12.2))
def m_spec_l1Bend (fuel : Nat) (o1 : l15Rd) (x2 : ByteArray) (x3 : (List ByteArray)) : Option (ByteArray × l15Rd) :=
 (bif (decide ((x2.size : Int) = 0)) then
 m_spec_l1Bend_j1 fuel x2 x3 true o1.b o1.p
 else
 (m_spec_l15Rd_pick fuel o1 2).bind fun v2 =>
 m_spec_l1Bend_j1 fuel x2 x3 (decide (v2.1 = 0)) v2.2.b v2.2.p)
def m_spec_DrawParseForm (fuel : Nat) (x1 : (List Int)) : Option ByteArray :=
 (m_spec_l15Open fuel x1).bind fun v1 =>
 (m_spec_l1Some fuel v1 3).bind fun v2 =>
 (m_spec_l1Dress fuel v2.2 v2.1).bind fun v3 =>
 (m_spec_l1Text fuel v3.1).bind fun v4 =>
 (m_spec_l1Bend fuel v3.2 v4 [(⟨#[]⟩ : ByteArray), (⟨#[40]⟩ : ByteArray), (⟨#[41]⟩ : ByteArray), (⟨#[32]⟩ : ByteArray), (⟨#[123]⟩ : ByteArray), (⟨#[125]⟩ : ByteArray), (⟨#[49]⟩ : ByteArray), (⟨#[97]⟩ : ByteArray), (⟨#[44]⟩ : ByteArray)]).bind fun v5 =>
 some v5.1
mutual
def m_laws_FnFormText_j4 (fuel : Nat) (g29 : Bool) : Option Bool :=
 match fuel with
 | 0 => none
 | fuel + 1 =>
 some g29
def m_laws_FnFormText_j3 (fuel : Nat) (v19 : Form × Bool) (v20 : Form × Bool) (g24 : Bool) : Option Bool :=
 match fuel with
 | 0 => none
 | fuel + 1 =>
 (bif g24 then
 (m_impl_FormSame fuel v19.1 v20.1).bind fun v27 =>
 (bif v27 then
 m_laws_FnFormText_j4 fuel  (decide (v19.2 = v20.2))
 else
 m_laws_FnFormText_j4 fuel  false)
 else
 (m_impl_FormatForm fuel v19.1).bind fun v31 =>
 (m_impl_ParseForm fuel v31).bind fun v32 =>
 (bif v32.2 then
 (m_impl_FormSame fuel v32.1 v19.1).bind fun v34 =>
 some v34
 else
 some false))
def m_laws_FnFormText_j2 (fuel : Nat) (x2 : (List Int)) : Option Bool :=
 match fuel with
 | 0 => none
 | fuel + 1 =>
 (m_spec_DrawParseForm fuel x2).bind fun v18 =>
 (m_impl_ParseForm fuel v18).bind fun v19 =>
 (m_spec_ParseForm fuel v18).bind fun v20 =>
 (m_impl_FormSame fuel v19.1 v20.1).bind fun v21 =>
 (bif (!v21) then
 m_laws_FnFormText_j3 fuel v19 v20 true
 else
 (bif (decide (v19.2 ≠ v20.2)) then
 m_laws_FnFormText_j3 fuel v19 v20 true
 else
 m_laws_FnFormText_j3 fuel v19 v20 (!v19.2)))
def m_laws_FnFormText_j1 (fuel : Nat) (x1 : (List Int)) (x2 : (List Int)) (g2 : Bool) : Option Bool :=
 match fuel with
 | 0 => none
 | fuel + 1 =>
 (bif g2 then
 some true
 else
 (m_spec_DrawFormatForm fuel x1).bind fun v5 =>
 (m_impl_FormatForm fuel v5).bind fun v6 =>
 (m_impl_ParseForm fuel v6).bind fun v7 =>
 (m_impl_FormValid fuel v5).bind fun v8 =>
 (m_spec_FormatForm fuel v5).bind fun v9 =>
 (bif (decide (v6 ≠ v9)) then
 some false
 else
 (m_spec_FormValid fuel v5).bind fun v11 =>
 (bif (decide (v8 ≠ v11)) then
 some false
 else
 (bif (decide (v7.2 ≠ v8)) then
 some false
 else
 (bif v7.2 then
 (m_impl_FormSame fuel v7.1 v5).bind fun v15 =>
 (bif (!v15) then
 some false
 else
 m_laws_FnFormText_j2 fuel x2 )
 else
 m_laws_FnFormText_j2 fuel x2 )))))
end
def m_laws_FnFormText (fuel : Nat) (x1 : (List Int)) (x2 : (List Int)) : Option Bool :=
 (bif (decide (1048576 < (x1.length : Int))) then
 m_laws_FnFormText_j1 fuel x1 x2 true
 else
 m_laws_FnFormText_j1 fuel x1 x2 (decide (1048576 < (x2.length : Int))))
end Go.Abs
