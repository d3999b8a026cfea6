/- A part of the proof: what the functions that the law calls answer, as pure values. -/
import Derived.Test.YtbkdbbfgdjcfgaaK1c4e8e704c39
import Derived.Test.YtbkdbbfgdjcfgaaKbf0e433deac6
set_option linter.unusedSimpArgs false
set_option linter.unusedVariables false
set_option maxHeartbeats 4000000
namespace Go.Abs
def m_impl_RuleValid (fuel : Nat) (x1 : Rule) (x2 : (List Form)) : Option Bool :=
 (m_impl_PatternValid fuel x1.pattern x2).bind fun v1 =>
 (bif (!v1) then
 some false
 else
 (bif (decide (x1.pattern.kind ≠ 3)) then
 some false
 else
 (bif (decide ((x1.pattern.kids.length : Int) = 0)) then
 some false
 else
 (m_impl_varsOf fuel x1.pattern x2).bind fun v5 =>
 (m_impl_templateOk fuel x1.template v5.1 v5.2).bind fun v6 =>
 some v6)))
def m_laws_eqRule (fuel : Nat) (x1 : Rule) (x2 : Rule) : Option Bool :=
 (m_laws_eqForm fuel x1.pattern x2.pattern).bind fun v1 =>
 (bif (!v1) then
 some false
 else
 (m_laws_eqForm fuel x1.template x2.template).bind fun v3 =>
 (bif (!v3) then
 some false
 else
 some true))
def m_slices_Clone_int (fuel : Nat) (x1 : (List Int)) : Option (List Int) :=
 chk (decide ((([] : List Int).length + x1.length) * 8 ≤ 140737488355328)) <|
 some (([] : List Int) ++ x1)
mutual
def m_impl_copyForm (fuel : Nat) (x1 : Form) : Option Form :=
 match fuel with
 | 0 => none
 | fuel + 1 =>
 (m_slices_Clone_int fuel x1.scopes).bind fun v1 =>
 m_impl_copyForm_l1 fuel x1 v1 0 ([] : List Form)
def m_impl_copyForm_l1 (fuel : Nat) (x1 : Form) (v1 : (List Int)) (g2 : Int) (g3 : (List Form)) : Option Form :=
 match fuel with
 | 0 => none
 | fuel + 1 =>
 (bif (decide (g2 < (x1.kids.length : Int))) then
 (idx x1.kids g2).bind fun v7 =>
 (m_impl_copyForm fuel v7).bind fun v8 =>
 chk (decide ((g3.length + [v8].length) * 80 ≤ 140737488355328)) <|
 m_impl_copyForm_l1 fuel x1 v1 (g2 + 1) (g3 ++ [v8])
 else
 some (Form.mk x1.kind x1.name x1.n v1 g3))
end
mutual
def m_spec_l5Rules_j2 (fuel : Nat) (x1 : (List Rule)) (x2 : (List Form)) (g1 : Int) (g4 : Bool) : Option Bool :=
 match fuel with
 | 0 => none
 | fuel + 1 =>
 (bif g4 then
 (idx x1 g1).bind fun v7 =>
 (m_spec_l5Rule fuel v7 x2).bind fun v8 =>
 (bif (!v8) then
 some false
 else
 m_spec_l5Rules_l1 fuel x1 x2 (w64 (g1 + 1)))
 else
 (bif (decide ((x1.length : Int) < 10)) then
 (m_spec_l4Literals fuel x2).bind fun v11 =>
 some v11
 else
 some false))
def m_spec_l5Rules_l1 (fuel : Nat) (x1 : (List Rule)) (x2 : (List Form)) (g1 : Int) : Option Bool :=
 match fuel with
 | 0 => none
 | fuel + 1 =>
 (bif (decide (g1 < (x1.length : Int))) then
 m_spec_l5Rules_j2 fuel x1 x2 g1 (decide (g1 < 10))
 else
 m_spec_l5Rules_j2 fuel x1 x2 g1 false)
end
def m_spec_l5Rules (fuel : Nat) (x1 : (List Rule)) (x2 : (List Form)) : Option Bool :=
 m_spec_l5Rules_l1 fuel x1 x2 0
def m_laws_szRuleS_l1 (fuel : Nat) (x1 : (List Rule)) (g2 : Int) (g3 : Int) : Option Int :=
 match fuel with
 | 0 => none
 | fuel + 1 =>
 (bif (decide (g3 < (x1.length : Int))) then
 (idx x1 g3).bind fun v7 =>
 (m_laws_szRule fuel v7 g2).bind fun v8 =>
 (bif (decide (v8 < 0)) then
 some (-1)
 else
 m_laws_szRuleS_l1 fuel x1 v8 (g3 + 1))
 else
 some g2)
def m_laws_szRuleS (fuel : Nat) (x1 : (List Rule)) (x2 : Int) : Option Int :=
 (bif (decide ((w64 (x2 - (x1.length : Int))) < 0)) then
 some (-1)
 else
 m_laws_szRuleS_l1 fuel x1 (w64 (x2 - (x1.length : Int))) 0)
def m_laws_toRuleS_l1 (fuel : Nat) (x1 : (List Rule)) (g2 : Int) (g3 : (List Rule)) : Option (List Rule) :=
 match fuel with
 | 0 => none
 | fuel + 1 =>
 (bif (decide (g2 < (x1.length : Int))) then
 (idx x1 g2).bind fun v7 =>
 (m_laws_toRule fuel v7).bind fun v8 =>
 (idx g3 g2).bind fun v9 =>
 m_laws_toRuleS_l1 fuel x1 (g2 + 1) (g3.set g2.toNat v8)
 else
 some g3)
def m_laws_toRuleS (fuel : Nat) (x1 : (List Rule)) : Option (List Rule) :=
 chk (decide (0 ≤ (x1.length : Int)) && decide ((x1.length : Int).toNat * 160 ≤ 140737488355328)) <|
 m_laws_toRuleS_l1 fuel x1 0 (List.replicate (x1.length : Int).toNat (Rule.mk (Form.mk 0 (⟨#[]⟩ : ByteArray) 0 ([] : List Int) ([] : List Form)) (Form.mk 0 (⟨#[]⟩ : ByteArray) 0 ([] : List Int) ([] : List Form))))
def m_impl_BindsValid_1 (fuel : Nat) (x1 : Bind) (o1 : Bind) : Option Bool :=
 (bif (decide (x1.name = o1.name)) then
 (m_slices_Equal_int fuel x1.scopes o1.scopes).bind fun v2 =>
 some v2
 else
 some false)
def m_slices_IndexFunc_Bind_BindsValid_1_l1 (fuel : Nat) (x1 : (List Bind)) (o1 : Bind) (g1 : Int) : Option Int :=
 match fuel with
 | 0 => none
 | fuel + 1 =>
 (bif (decide (g1 < (x1.length : Int))) then
 (idx x1 g1).bind fun v5 =>
 (m_impl_BindsValid_1 fuel v5 o1).bind fun v6 =>
 (bif v6 then
 some g1
 else
 m_slices_IndexFunc_Bind_BindsValid_1_l1 fuel x1 o1 (g1 + 1))
 else
 some (-1))
def m_slices_IndexFunc_Bind_BindsValid_1 (fuel : Nat) (x1 : (List Bind)) (o1 : Bind) : Option Int :=
 m_slices_IndexFunc_Bind_BindsValid_1_l1 fuel x1 o1 0
def m_slices_ContainsFunc_Bind_BindsValid_1 (fuel : Nat) (x1 : (List Bind)) (o1 : Bind) : Option Bool :=
 (m_slices_IndexFunc_Bind_BindsValid_1 fuel x1 o1).bind fun v1 =>
 some (decide (0 ≤ v1))
mutual
def m_impl_BindsValid_j2 (fuel : Nat) (x1 : (List Bind)) (g1 : Int) (v5 : Bind) (g11 : Bool) : Option Bool :=
 match fuel with
 | 0 => none
 | fuel + 1 =>
 (bif g11 then
 some false
 else
 (sub x1 0 g1).bind fun v14 =>
 (m_slices_ContainsFunc_Bind_BindsValid_1 fuel v14 v5).bind fun v15 =>
 (bif v15 then
 some false
 else
 m_impl_BindsValid_l1 fuel x1 (g1 + 1)))
def m_impl_BindsValid_l1 (fuel : Nat) (x1 : (List Bind)) (g1 : Int) : Option Bool :=
 match fuel with
 | 0 => none
 | fuel + 1 =>
 (bif (decide (g1 < (x1.length : Int))) then
 (idx x1 g1).bind fun v5 =>
 (m_impl_NameValid fuel v5.name).bind fun v6 =>
 (bif (!v6) then
 m_impl_BindsValid_j2 fuel x1 g1 v5 true
 else
 (m_impl_scopesOk fuel v5.scopes).bind fun v8 =>
 (bif (!v8) then
 m_impl_BindsValid_j2 fuel x1 g1 v5 true
 else
 (m_impl_within fuel v5.id 1 999).bind fun v10 =>
 m_impl_BindsValid_j2 fuel x1 g1 v5 (!v10)))
 else
 some (decide ((x1.length : Int) ≤ 60)))
end
def m_impl_BindsValid (fuel : Nat) (x1 : (List Bind)) : Option Bool :=
 m_impl_BindsValid_l1 fuel x1 0
def m_impl_rulesOk_1 (fuel : Nat) (x1 : Rule) (o1 : (List Form)) : Option Bool :=
 (m_impl_RuleValid fuel x1 o1).bind fun v1 =>
 some (!v1)
def m_slices_IndexFunc_Rule_rulesOk_1_l1 (fuel : Nat) (x1 : (List Rule)) (o1 : (List Form)) (g1 : Int) : Option Int :=
 match fuel with
 | 0 => none
 | fuel + 1 =>
 (bif (decide (g1 < (x1.length : Int))) then
 (idx x1 g1).bind fun v5 =>
 (m_impl_rulesOk_1 fuel v5 o1).bind fun v6 =>
 (bif v6 then
 some g1
 else
 m_slices_IndexFunc_Rule_rulesOk_1_l1 fuel x1 o1 (g1 + 1))
 else
 some (-1))
def m_slices_IndexFunc_Rule_rulesOk_1 (fuel : Nat) (x1 : (List Rule)) (o1 : (List Form)) : Option Int :=
 m_slices_IndexFunc_Rule_rulesOk_1_l1 fuel x1 o1 0
def m_slices_ContainsFunc_Rule_rulesOk_1 (fuel : Nat) (x1 : (List Rule)) (o1 : (List Form)) : Option Bool :=
 (m_slices_IndexFunc_Rule_rulesOk_1 fuel x1 o1).bind fun v1 =>
 some (decide (0 ≤ v1))
def m_impl_rulesOk (fuel : Nat) (x1 : (List Rule)) (x2 : (List Form)) : Option Bool :=
 (bif (decide ((x1.length : Int) ≤ 9)) then
 (m_impl_literalsOk fuel x2).bind fun v2 =>
 (bif v2 then
 (m_slices_ContainsFunc_Rule_rulesOk_1 fuel x1 x2).bind fun v4 =>
 some (!v4)
 else
 some false)
 else
 some false)
def m_laws_eqRuleS_l1 (fuel : Nat) (x1 : (List Rule)) (x2 : (List Rule)) (g2 : Int) : Option Bool :=
 match fuel with
 | 0 => none
 | fuel + 1 =>
 (bif (decide (g2 < (x1.length : Int))) then
 (idx x1 g2).bind fun v6 =>
 (idx x2 g2).bind fun v7 =>
 (m_laws_eqRule fuel v6 v7).bind fun v8 =>
 (bif (!v8) then
 some false
 else
 m_laws_eqRuleS_l1 fuel x1 x2 (g2 + 1))
 else
 some true)
def m_laws_eqRuleS (fuel : Nat) (x1 : (List Rule)) (x2 : (List Rule)) : Option Bool :=
 (bif (decide ((x1.length : Int) ≠ (x2.length : Int))) then
 some false
 else
 m_laws_eqRuleS_l1 fuel x1 x2 0)
def m_slices_Index_int_l1 (fuel : Nat) (x1 : (List Int)) (x2 : Int) (g1 : Int) : Option Int :=
 match fuel with
 | 0 => none
 | fuel + 1 =>
 (bif (decide (g1 < (x1.length : Int))) then
 (idx x1 g1).bind fun v5 =>
 (bif (decide (x2 = v5)) then
 some g1
 else
 m_slices_Index_int_l1 fuel x1 x2 (g1 + 1))
 else
 some (-1))
def m_slices_Index_int (fuel : Nat) (x1 : (List Int)) (x2 : Int) : Option Int :=
 m_slices_Index_int_l1 fuel x1 x2 0
def m_slices_Contains_int (fuel : Nat) (x1 : (List Int)) (x2 : Int) : Option Bool :=
 (m_slices_Index_int fuel x1 x2).bind fun v1 =>
 some (decide (0 ≤ v1))
def m_impl_ScopesWithin_1 (fuel : Nat) (x1 : Int) (o1 : (List Int)) : Option Bool :=
 (m_slices_Contains_int fuel o1 x1).bind fun v1 =>
 some (!v1)
def m_slices_IndexFunc_int_ScopesWithin_1_l1 (fuel : Nat) (x1 : (List Int)) (o1 : (List Int)) (g1 : Int) : Option Int :=
 match fuel with
 | 0 => none
 | fuel + 1 =>
 (bif (decide (g1 < (x1.length : Int))) then
 (idx x1 g1).bind fun v5 =>
 (m_impl_ScopesWithin_1 fuel v5 o1).bind fun v6 =>
 (bif v6 then
 some g1
 else
 m_slices_IndexFunc_int_ScopesWithin_1_l1 fuel x1 o1 (g1 + 1))
 else
 some (-1))
def m_slices_IndexFunc_int_ScopesWithin_1 (fuel : Nat) (x1 : (List Int)) (o1 : (List Int)) : Option Int :=
 m_slices_IndexFunc_int_ScopesWithin_1_l1 fuel x1 o1 0
def m_slices_ContainsFunc_int_ScopesWithin_1 (fuel : Nat) (x1 : (List Int)) (o1 : (List Int)) : Option Bool :=
 (m_slices_IndexFunc_int_ScopesWithin_1 fuel x1 o1).bind fun v1 =>
 some (decide (0 ≤ v1))
def m_impl_ScopesWithin (fuel : Nat) (x1 : (List Int)) (x2 : (List Int)) : Option Bool :=
 (m_slices_ContainsFunc_int_ScopesWithin_1 fuel x1 x2).bind fun v1 =>
 some (!v1)
mutual
def m_impl_fitting_j2 (fuel : Nat) (x1 : (List Bind)) (x2 : Form) (g1 : (List Int)) (g2 : Int) (g9 : Bool) : Option (List Int) :=
 match fuel with
 | 0 => none
 | fuel + 1 =>
 (bif g9 then
 chk (decide ((g1.length + [g2].length) * 8 ≤ 140737488355328)) <|
 m_impl_fitting_l1 fuel x1 x2 (g1 ++ [g2]) (g2 + 1)
 else
 m_impl_fitting_l1 fuel x1 x2 g1 (g2 + 1))
def m_impl_fitting_l1 (fuel : Nat) (x1 : (List Bind)) (x2 : Form) (g1 : (List Int)) (g2 : Int) : Option (List Int) :=
 match fuel with
 | 0 => none
 | fuel + 1 =>
 (bif (decide (g2 < (x1.length : Int))) then
 (idx x1 g2).bind fun v6 =>
 (bif (decide (v6.name = x2.name)) then
 (m_impl_ScopesWithin fuel v6.scopes x2.scopes).bind fun v8 =>
 m_impl_fitting_j2 fuel x1 x2 g1 g2 v8
 else
 m_impl_fitting_j2 fuel x1 x2 g1 g2 false)
 else
 some g1)
end
def m_impl_fitting (fuel : Nat) (x1 : (List Bind)) (x2 : Form) : Option (List Int) :=
 m_impl_fitting_l1 fuel x1 x2 ([] : List Int) 0
def m_impl_bound_1 (fuel : Nat) (x1 : Int) (o1 : (List Bind)) (o2 : Int) : Option Bool :=
 (idx o1 x1).bind fun v1 =>
 (idx o1 o2).bind fun v2 =>
 (m_impl_ScopesWithin fuel v1.scopes v2.scopes).bind fun v3 =>
 some (!v3)
def m_slices_IndexFunc_int_bound_1_l1 (fuel : Nat) (x1 : (List Int)) (o1 : (List Bind)) (o2 : Int) (g1 : Int) : Option Int :=
 match fuel with
 | 0 => none
 | fuel + 1 =>
 (bif (decide (g1 < (x1.length : Int))) then
 (idx x1 g1).bind fun v5 =>
 (m_impl_bound_1 fuel v5 o1 o2).bind fun v6 =>
 (bif v6 then
 some g1
 else
 m_slices_IndexFunc_int_bound_1_l1 fuel x1 o1 o2 (g1 + 1))
 else
 some (-1))
def m_slices_IndexFunc_int_bound_1 (fuel : Nat) (x1 : (List Int)) (o1 : (List Bind)) (o2 : Int) : Option Int :=
 m_slices_IndexFunc_int_bound_1_l1 fuel x1 o1 o2 0
def m_slices_ContainsFunc_int_bound_1 (fuel : Nat) (x1 : (List Int)) (o1 : (List Bind)) (o2 : Int) : Option Bool :=
 (m_slices_IndexFunc_int_bound_1 fuel x1 o1 o2).bind fun v1 =>
 some (decide (0 ≤ v1))
def m_impl_bound_l1 (fuel : Nat) (x1 : (List Bind)) (v1 : (List Int)) (g3 : Int) : Option (Int × Int) :=
 match fuel with
 | 0 => none
 | fuel + 1 =>
 (bif (decide (g3 < (v1.length : Int))) then
 (idx v1 g3).bind fun v7 =>
 (m_slices_ContainsFunc_int_bound_1 fuel v1 x1 v7).bind fun v8 =>
 (bif (!v8) then
 some (v7, 1)
 else
 m_impl_bound_l1 fuel x1 v1 (g3 + 1))
 else
 some (0, 2))
def m_impl_bound (fuel : Nat) (x1 : (List Bind)) (x2 : Form) : Option (Int × Int) :=
 (m_impl_fitting fuel x1 x2).bind fun v1 =>
 (bif (decide ((v1.length : Int) = 0)) then
 some (0, 0)
 else
 m_impl_bound_l1 fuel x1 v1 0)
def m_impl_FindName_j1 (fuel : Nat) (x1 : (List Bind)) (x2 : Form) (g4 : Bool) : Option (Int × Int) :=
 match fuel with
 | 0 => none
 | fuel + 1 =>
 (bif g4 then
 some (0, 0)
 else
 (m_impl_bound fuel x1 x2).bind fun v7 =>
 (bif (decide (v7.2 ≠ 1)) then
 some (0, v7.2)
 else
 (idx x1 v7.1).bind fun v9 =>
 some (v9.id, 1)))
def m_impl_FindName (fuel : Nat) (x1 : (List Bind)) (x2 : Form) : Option (Int × Int) :=
 (m_impl_BindsValid fuel x1).bind fun v1 =>
 (bif (!v1) then
 m_impl_FindName_j1 fuel x1 x2 true
 else
 (m_impl_isName fuel x2).bind fun v3 =>
 m_impl_FindName_j1 fuel x1 x2 (!v3))
def m_impl_SameReference_j1 (fuel : Nat) (x1 : (List Bind)) (x2 : Form) (x3 : Form) (g6 : Bool) : Option Bool :=
 match fuel with
 | 0 => none
 | fuel + 1 =>
 (bif g6 then
 some false
 else
 (m_impl_FindName fuel x1 x2).bind fun v9 =>
 (m_impl_FindName fuel x1 x3).bind fun v10 =>
 (bif (decide (v9.2 = 1)) then
 (bif (decide (v10.2 = 1)) then
 (bif (decide (v9.1 = v10.1)) then
 some true
 else
 (bif (decide (v9.2 = 0)) then
 (bif (decide (v10.2 = 0)) then
 some (decide (x2.name = x3.name))
 else
 some false)
 else
 some false))
 else
 (bif (decide (v9.2 = 0)) then
 (bif (decide (v10.2 = 0)) then
 some (decide (x2.name = x3.name))
 else
 some false)
 else
 some false))
 else
 (bif (decide (v9.2 = 0)) then
 (bif (decide (v10.2 = 0)) then
 some (decide (x2.name = x3.name))
 else
 some false)
 else
 some false)))
def m_impl_SameReference (fuel : Nat) (x1 : (List Bind)) (x2 : Form) (x3 : Form) : Option Bool :=
 (m_impl_BindsValid fuel x1).bind fun v1 =>
 (bif (!v1) then
 m_impl_SameReference_j1 fuel x1 x2 x3 true
 else
 (m_impl_isName fuel x2).bind fun v3 =>
 (bif (!v3) then
 m_impl_SameReference_j1 fuel x1 x2 x3 true
 else
 (m_impl_isName fuel x3).bind fun v5 =>
 m_impl_SameReference_j1 fuel x1 x2 x3 (!v5)))
mutual
def m_impl_match (fuel : Nat) (x1 : (List Bind)) (x2 : Form) (x3 : (List Form)) (x4 : Form) : Option ((List Hit) × Bool) :=
 match fuel with
 | 0 => none
 | fuel + 1 =>
 (bif (decide (x2.kind = 1)) then
 (bif (decide (x2.name = (⟨#[95]⟩ : ByteArray))) then
 some (([] : List Hit), true)
 else
 (m_impl_isIn fuel x3 x2).bind fun v3 =>
 (bif v3 then
 (m_impl_SameReference fuel x1 x2 x4).bind fun v5 =>
 some (([] : List Hit), v5)
 else
 (m_impl_copyForm fuel x2).bind fun v6 =>
 (m_impl_copyForm fuel x4).bind fun v7 =>
 some ([(Hit.mk v6 0 v7 ([] : List Hit))], true)))
 else
 (bif (decide (x2.kind = 2)) then
 (m_impl_FormSame fuel x2 x4).bind fun v9 =>
 some (([] : List Hit), v9)
 else
 (bif (decide (x4.kind ≠ 3)) then
 some (([] : List Hit), false)
 else
 (m_impl_dotsAt fuel x2.kids).bind fun v11 =>
 (bif (decide (v11 < 0)) then
 (bif (decide ((x2.kids.length : Int) ≠ (x4.kids.length : Int))) then
 some (([] : List Hit), false)
 else
 m_impl_match_l2 fuel x1 x2 x3 x4 0 ([] : List Hit))
 else
 (bif (decide ((w64 ((x4.kids.length : Int) - (w64 ((x2.kids.length : Int) - 2)))) < 0)) then
 some (([] : List Hit), false)
 else
 m_impl_match_l4 fuel x1 x2 x3 x4 v11 0 ([] : List Hit))))))
def m_impl_match_l2 (fuel : Nat) (x1 : (List Bind)) (x2 : Form) (x3 : (List Form)) (x4 : Form) (g14 : Int) (g15 : (List Hit)) : Option ((List Hit) × Bool) :=
 match fuel with
 | 0 => none
 | fuel + 1 =>
 (bif (decide (g14 < (x2.kids.length : Int))) then
 (idx x2.kids g14).bind fun v19 =>
 (idx x4.kids g14).bind fun v20 =>
 (m_impl_match_1 fuel v19 v20 x1 x3 g15).bind fun v21 =>
 (bif (!v21.1) then
 some (([] : List Hit), false)
 else
 m_impl_match_l2 fuel x1 x2 x3 x4 (g14 + 1) v21.2)
 else
 m_impl_match_j1 fuel  g15)
def m_impl_match_j1 (fuel : Nat) (g23 : (List Hit)) : Option ((List Hit) × Bool) :=
 match fuel with
 | 0 => none
 | fuel + 1 =>
 some (g23, true)
def m_impl_match_l4 (fuel : Nat) (x1 : (List Bind)) (x2 : Form) (x3 : (List Form)) (x4 : Form) (v11 : Int) (g26 : Int) (g27 : (List Hit)) : Option ((List Hit) × Bool) :=
 match fuel with
 | 0 => none
 | fuel + 1 =>
 (bif (decide (g26 < (w64 (v11 - 1)))) then
 (idx x2.kids g26).bind fun v30 =>
 (idx x4.kids g26).bind fun v31 =>
 (m_impl_match_1 fuel v30 v31 x1 x3 g27).bind fun v32 =>
 (bif (!v32.1) then
 some (([] : List Hit), false)
 else
 m_impl_match_l4 fuel x1 x2 x3 x4 v11 (w64 (g26 + 1)) v32.2)
 else
 m_impl_match_j3 fuel x1 x2 x3 x4 v11 g27)
def m_impl_match_l6 (fuel : Nat) (x1 : (List Bind)) (x2 : Form) (x3 : (List Form)) (x4 : Form) (v11 : Int) (g34 : (List Hit)) (v37 : (List Form) × (List Int)) (g38 : (List Hit)) (g39 : Int) : Option ((List Hit) × Bool) :=
 match fuel with
 | 0 => none
 | fuel + 1 =>
 (bif (decide (g39 < (v37.1.length : Int))) then
 (idx v37.1 g39).bind fun v43 =>
 (m_impl_copyForm fuel v43).bind fun v44 =>
 (idx v37.2 g39).bind fun v45 =>
 chk (decide ((g38.length + [(Hit.mk v44 (w64 (v45 + 1)) (Form.mk 0 (⟨#[]⟩ : ByteArray) 0 ([] : List Int) ([] : List Form)) ([] : List Hit))].length) * 192 ≤ 140737488355328)) <|
 m_impl_match_l6 fuel x1 x2 x3 x4 v11 g34 v37 (g38 ++ [(Hit.mk v44 (w64 (v45 + 1)) (Form.mk 0 (⟨#[]⟩ : ByteArray) 0 ([] : List Int) ([] : List Form)) ([] : List Hit))]) (g39 + 1)
 else
 m_impl_match_j5 fuel x1 x2 x3 x4 v11 g34 g38)
def m_impl_match_l9 (fuel : Nat) (x1 : (List Bind)) (x2 : Form) (x3 : (List Form)) (x4 : Form) (v11 : Int) (g34 : (List Hit)) (v49 : (List Form)) (g50 : Int) (g51 : (List Hit)) (v57 : (List Hit) × Bool) (g59 : Int) (g60 : (List Hit)) : Option ((List Hit) × Bool) :=
 match fuel with
 | 0 => none
 | fuel + 1 =>
 (bif (decide (g59 < (g51.length : Int))) then
 (idx g60 g59).bind fun v63 =>
 (idx v57.1 g59).bind fun v64 =>
 chk (decide ((v63.many.length + [(Hit.mk (Form.mk 0 (⟨#[]⟩ : ByteArray) 0 ([] : List Int) ([] : List Form)) 0 (Form.mk 0 (⟨#[]⟩ : ByteArray) 0 ([] : List Int) ([] : List Form)) ([] : List Hit))].length) * 192 ≤ 140737488355328)) <|
 (idx (v63.many ++ [(Hit.mk (Form.mk 0 (⟨#[]⟩ : ByteArray) 0 ([] : List Int) ([] : List Form)) 0 (Form.mk 0 (⟨#[]⟩ : ByteArray) 0 ([] : List Int) ([] : List Form)) ([] : List Hit))]) (v63.many.length : Int)).bind fun v66 =>
 (idx g60 g59).bind fun v67 =>
 m_impl_match_l9 fuel x1 x2 x3 x4 v11 g34 v49 g50 g51 v57 (w64 (g59 + 1)) (g60.set g59.toNat (Hit.mk v63.name v63.depth v63.one ((v63.many ++ [(Hit.mk (Form.mk 0 (⟨#[]⟩ : ByteArray) 0 ([] : List Int) ([] : List Form)) 0 (Form.mk 0 (⟨#[]⟩ : ByteArray) 0 ([] : List Int) ([] : List Form)) ([] : List Hit))]).set (v63.many.length : Int).toNat v64)))
 else
 m_impl_match_l8 fuel x1 x2 x3 x4 v11 g34 v49 (w64 (g50 + 1)) g60)
def m_impl_match_l8 (fuel : Nat) (x1 : (List Bind)) (x2 : Form) (x3 : (List Form)) (x4 : Form) (v11 : Int) (g34 : (List Hit)) (v49 : (List Form)) (g50 : Int) (g51 : (List Hit)) : Option ((List Hit) × Bool) :=
 match fuel with
 | 0 => none
 | fuel + 1 =>
 (bif (decide (g50 < (v49.length : Int))) then
 (idx v49 g50).bind fun v55 =>
 (idx x2.kids (w64 (v11 - 1))).bind fun v56 =>
 (m_impl_match fuel x1 v56 x3 v55).bind fun v57 =>
 (bif (!v57.2) then
 some (([] : List Hit), false)
 else
 m_impl_match_l9 fuel x1 x2 x3 x4 v11 g34 v49 g50 g51 v57 0 g51)
 else
 m_impl_match_j7 fuel x1 x2 x3 x4 v11 g34 g51)
def m_impl_match_l10 (fuel : Nat) (x1 : (List Bind)) (x2 : Form) (x3 : (List Form)) (x4 : Form) (v11 : Int) (g71 : Int) (g72 : (List Hit)) : Option ((List Hit) × Bool) :=
 match fuel with
 | 0 => none
 | fuel + 1 =>
 (bif (decide (g71 < (x2.kids.length : Int))) then
 (idx x2.kids g71).bind fun v76 =>
 (idx x4.kids (w64 ((w64 ((w64 ((w64 ((w64 (v11 - 1)) + (w64 ((x4.kids.length : Int) - (w64 ((x2.kids.length : Int) - 2)))))) + g71)) - v11)) - 1))).bind fun v77 =>
 (m_impl_match_1 fuel v76 v77 x1 x3 g72).bind fun v78 =>
 (bif (!v78.1) then
 some (([] : List Hit), false)
 else
 m_impl_match_l10 fuel x1 x2 x3 x4 v11 (g71 + 1) v78.2)
 else
 some (g72, true))
def m_impl_match_j7 (fuel : Nat) (x1 : (List Bind)) (x2 : Form) (x3 : (List Form)) (x4 : Form) (v11 : Int) (g34 : (List Hit)) (g68 : (List Hit)) : Option ((List Hit) × Bool) :=
 match fuel with
 | 0 => none
 | fuel + 1 =>
 chk (decide ((g34.length + g68.length) * 192 ≤ 140737488355328)) <|
 m_impl_match_l10 fuel x1 x2 x3 x4 v11 (w64 (v11 + 1)) (g34 ++ g68)
def m_impl_match_j5 (fuel : Nat) (x1 : (List Bind)) (x2 : Form) (x3 : (List Form)) (x4 : Form) (v11 : Int) (g34 : (List Hit)) (g47 : (List Hit)) : Option ((List Hit) × Bool) :=
 match fuel with
 | 0 => none
 | fuel + 1 =>
 (sub x4.kids (w64 (v11 - 1)) (w64 ((w64 (v11 - 1)) + (w64 ((x4.kids.length : Int) - (w64 ((x2.kids.length : Int) - 2))))))).bind fun v49 =>
 m_impl_match_l8 fuel x1 x2 x3 x4 v11 g34 v49 0 g47
def m_impl_match_j3 (fuel : Nat) (x1 : (List Bind)) (x2 : Form) (x3 : (List Form)) (x4 : Form) (v11 : Int) (g34 : (List Hit)) : Option ((List Hit) × Bool) :=
 match fuel with
 | 0 => none
 | fuel + 1 =>
 (idx x2.kids (w64 (v11 - 1))).bind fun v36 =>
 (m_impl_varsOf fuel v36 x3).bind fun v37 =>
 m_impl_match_l6 fuel x1 x2 x3 x4 v11 g34 v37 ([] : List Hit) 0
def m_impl_match_1 (fuel : Nat) (x1 : Form) (x2 : Form) (o1 : (List Bind)) (o2 : (List Form)) (o3 : (List Hit)) : Option (Bool × (List Hit)) :=
 match fuel with
 | 0 => none
 | fuel + 1 =>
 (m_impl_match fuel o1 x1 o2 x2).bind fun v1 =>
 chk (decide ((o3.length + v1.1.length) * 192 ≤ 140737488355328)) <|
 some (v1.2, (o3 ++ v1.1))
end
mutual
def m_impl_general (fuel : Nat) (x1 : Form) (x2 : Form) (x3 : (List Form)) : Option Bool :=
 match fuel with
 | 0 => none
 | fuel + 1 =>
 (m_impl_isVar fuel x1 x3).bind fun v1 =>
 (bif v1 then
 m_impl_general_j1 fuel x1 x2 x3 true
 else
 (m_impl_named fuel x1 (⟨#[95]⟩ : ByteArray)).bind fun v3 =>
 m_impl_general_j1 fuel x1 x2 x3 v3)
def m_impl_general_l3 (fuel : Nat) (x1 : Form) (x2 : Form) (x3 : (List Form)) (g13 : Int) : Option Bool :=
 match fuel with
 | 0 => none
 | fuel + 1 =>
 (bif (decide (g13 < (x1.kids.length : Int))) then
 (idx x1.kids g13).bind fun v17 =>
 (m_impl_named fuel v17 (⟨#[46, 46, 46]⟩ : ByteArray)).bind fun v18 =>
 (idx x2.kids g13).bind fun v19 =>
 (m_impl_named fuel v19 (⟨#[46, 46, 46]⟩ : ByteArray)).bind fun v20 =>
 (bif (decide (v18 ≠ v20)) then
 some false
 else
 (bif (!v18) then
 (idx x2.kids g13).bind fun v23 =>
 (m_impl_general fuel v17 v23 x3).bind fun v24 =>
 (bif (!v24) then
 some false
 else
 m_impl_general_l3 fuel x1 x2 x3 (g13 + 1))
 else
 m_impl_general_l3 fuel x1 x2 x3 (g13 + 1)))
 else
 some true)
def m_impl_general_j2 (fuel : Nat) (x1 : Form) (x2 : Form) (x3 : (List Form)) (g10 : Bool) : Option Bool :=
 match fuel with
 | 0 => none
 | fuel + 1 =>
 (bif g10 then
 some false
 else
 m_impl_general_l3 fuel x1 x2 x3 0)
def m_impl_general_j1 (fuel : Nat) (x1 : Form) (x2 : Form) (x3 : (List Form)) (g4 : Bool) : Option Bool :=
 match fuel with
 | 0 => none
 | fuel + 1 =>
 (bif g4 then
 some true
 else
 (bif (decide (x1.kind ≠ 3)) then
 (m_impl_FormSame fuel x1 x2).bind fun v8 =>
 some v8
 else
 (bif (decide (x2.kind ≠ 3)) then
 m_impl_general_j2 fuel x1 x2 x3 true
 else
 m_impl_general_j2 fuel x1 x2 x3 (decide ((x1.kids.length : Int) ≠ (x2.kids.length : Int))))))
end
def m_impl_DeadRules_1 (fuel : Nat) (x1 : Rule) (o1 : Rule) (o2 : (List Form)) : Option Bool :=
 (m_impl_general fuel x1.pattern o1.pattern o2).bind fun v1 =>
 some v1
def m_slices_IndexFunc_Rule_DeadRules_1_l1 (fuel : Nat) (x1 : (List Rule)) (o1 : Rule) (o2 : (List Form)) (g1 : Int) : Option Int :=
 match fuel with
 | 0 => none
 | fuel + 1 =>
 (bif (decide (g1 < (x1.length : Int))) then
 (idx x1 g1).bind fun v5 =>
 (m_impl_DeadRules_1 fuel v5 o1 o2).bind fun v6 =>
 (bif v6 then
 some g1
 else
 m_slices_IndexFunc_Rule_DeadRules_1_l1 fuel x1 o1 o2 (g1 + 1))
 else
 some (-1))
def m_slices_IndexFunc_Rule_DeadRules_1 (fuel : Nat) (x1 : (List Rule)) (o1 : Rule) (o2 : (List Form)) : Option Int :=
 m_slices_IndexFunc_Rule_DeadRules_1_l1 fuel x1 o1 o2 0
def m_slices_ContainsFunc_Rule_DeadRules_1 (fuel : Nat) (x1 : (List Rule)) (o1 : Rule) (o2 : (List Form)) : Option Bool :=
 (m_slices_IndexFunc_Rule_DeadRules_1 fuel x1 o1 o2).bind fun v1 =>
 some (decide (0 ≤ v1))
def m_impl_DeadRules_l1 (fuel : Nat) (x1 : (List Rule)) (x2 : (List Form)) (g3 : (List Int)) (g4 : Int) : Option (List Int) :=
 match fuel with
 | 0 => none
 | fuel + 1 =>
 (bif (decide (g4 < (x1.length : Int))) then
 (idx x1 g4).bind fun v8 =>
 (sub x1 0 g4).bind fun v9 =>
 (m_slices_ContainsFunc_Rule_DeadRules_1 fuel v9 v8 x2).bind fun v10 =>
 (bif v10 then
 chk (decide ((g3.length + [g4].length) * 8 ≤ 140737488355328)) <|
 m_impl_DeadRules_l1 fuel x1 x2 (g3 ++ [g4]) (g4 + 1)
 else
 m_impl_DeadRules_l1 fuel x1 x2 g3 (g4 + 1))
 else
 some g3)
def m_impl_DeadRules (fuel : Nat) (x1 : (List Rule)) (x2 : (List Form)) : Option (List Int) :=
 (m_impl_rulesOk fuel x1 x2).bind fun v1 =>
 (bif (!v1) then
 some ([] : List Int)
 else
 m_impl_DeadRules_l1 fuel x1 x2 ([] : List Int) 0)
mutual
def m_spec_l5General (fuel : Nat) (x1 : Form) (x2 : Form) (x3 : (List Form)) : Option Bool :=
 match fuel with
 | 0 => none
 | fuel + 1 =>
 (bif (decide (x2.kind = 1)) then
 (bif (decide (x2.name ≠ (⟨#[46, 46, 46]⟩ : ByteArray))) then
 (m_spec_l4In fuel x3 x2).bind fun v3 =>
 (bif (!v3) then
 some true
 else
 m_spec_l5General_j1 fuel x1 x2 x3 )
 else
 m_spec_l5General_j1 fuel x1 x2 x3 )
 else
 m_spec_l5General_j1 fuel x1 x2 x3 )
def m_spec_l5General_l3 (fuel : Nat) (x1 : Form) (x2 : Form) (x3 : (List Form)) (g12 : Int) : Option Bool :=
 match fuel with
 | 0 => none
 | fuel + 1 =>
 (bif (decide (g12 < (x1.kids.length : Int))) then
 (idx x1.kids g12).bind fun v16 =>
 (m_spec_l4Dots fuel v16).bind fun v17 =>
 (idx x2.kids g12).bind fun v18 =>
 (m_spec_l4Dots fuel v18).bind fun v19 =>
 (bif (decide (v17 ≠ v19)) then
 some false
 else
 (idx x1.kids g12).bind fun v21 =>
 (m_spec_l4Dots fuel v21).bind fun v22 =>
 (bif (!v22) then
 (idx x1.kids g12).bind fun v24 =>
 (idx x2.kids g12).bind fun v25 =>
 (m_spec_l5General fuel v24 v25 x3).bind fun v26 =>
 (bif (!v26) then
 some false
 else
 m_spec_l5General_l3 fuel x1 x2 x3 (g12 + 1))
 else
 m_spec_l5General_l3 fuel x1 x2 x3 (g12 + 1)))
 else
 some true)
def m_spec_l5General_j2 (fuel : Nat) (x1 : Form) (x2 : Form) (x3 : (List Form)) (g9 : Bool) : Option Bool :=
 match fuel with
 | 0 => none
 | fuel + 1 =>
 (bif g9 then
 some false
 else
 m_spec_l5General_l3 fuel x1 x2 x3 0)
def m_spec_l5General_j1 (fuel : Nat) (x1 : Form) (x2 : Form) (x3 : (List Form)) : Option Bool :=
 match fuel with
 | 0 => none
 | fuel + 1 =>
 (bif (decide (x2.kind ≠ 3)) then
 (m_spec_FormSame fuel x1 x2).bind fun v7 =>
 some v7
 else
 (bif (decide (x1.kind ≠ 3)) then
 m_spec_l5General_j2 fuel x1 x2 x3 true
 else
 m_spec_l5General_j2 fuel x1 x2 x3 (decide ((x1.kids.length : Int) ≠ (x2.kids.length : Int)))))
end
mutual
def m_spec_DeadRules_j5 (fuel : Nat) (x1 : (List Rule)) (x2 : (List Form)) (g1 : (List Int)) (g2 : Int) (g9 : Bool) (g10 : Int) (g13 : Bool) : Option (List Int) :=
 match fuel with
 | 0 => none
 | fuel + 1 =>
 (bif g13 then
 (idx x1 g2).bind fun v16 =>
 (idx x1 g10).bind fun v17 =>
 (m_spec_l5General fuel v16.pattern v17.pattern x2).bind fun v18 =>
 m_spec_DeadRules_l4 fuel x1 x2 g1 g2 v18 (w64 (g10 + 1))
 else
 m_spec_DeadRules_j3 fuel x1 x2 g1 g2 g9)
def m_spec_DeadRules_l4 (fuel : Nat) (x1 : (List Rule)) (x2 : (List Form)) (g1 : (List Int)) (g2 : Int) (g9 : Bool) (g10 : Int) : Option (List Int) :=
 match fuel with
 | 0 => none
 | fuel + 1 =>
 (bif (decide (g10 < g2)) then
 m_spec_DeadRules_j5 fuel x1 x2 g1 g2 g9 g10 (!g9)
 else
 m_spec_DeadRules_j5 fuel x1 x2 g1 g2 g9 g10 false)
def m_spec_DeadRules_j3 (fuel : Nat) (x1 : (List Rule)) (x2 : (List Form)) (g1 : (List Int)) (g2 : Int) (g19 : Bool) : Option (List Int) :=
 match fuel with
 | 0 => none
 | fuel + 1 =>
 (bif g19 then
 chk (decide ((g1.length + [g2].length) * 8 ≤ 140737488355328)) <|
 m_spec_DeadRules_l1 fuel x1 x2 (g1 ++ [g2]) (w64 (g2 + 1))
 else
 m_spec_DeadRules_l1 fuel x1 x2 g1 (w64 (g2 + 1)))
def m_spec_DeadRules_j2 (fuel : Nat) (x1 : (List Rule)) (x2 : (List Form)) (g1 : (List Int)) (g2 : Int) (g6 : Bool) : Option (List Int) :=
 match fuel with
 | 0 => none
 | fuel + 1 =>
 (bif g6 then
 m_spec_DeadRules_l4 fuel x1 x2 g1 g2 false 0
 else
 some g1)
def m_spec_DeadRules_l1 (fuel : Nat) (x1 : (List Rule)) (x2 : (List Form)) (g1 : (List Int)) (g2 : Int) : Option (List Int) :=
 match fuel with
 | 0 => none
 | fuel + 1 =>
 (bif (decide (g2 < (x1.length : Int))) then
 (m_spec_l5Rules fuel x1 x2).bind fun v5 =>
 m_spec_DeadRules_j2 fuel x1 x2 g1 g2 v5
 else
 m_spec_DeadRules_j2 fuel x1 x2 g1 g2 false)
end
def m_spec_DeadRules (fuel : Nat) (x1 : (List Rule)) (x2 : (List Form)) : Option (List Int) :=
 m_spec_DeadRules_l1 fuel x1 x2 ([] : List Int) 0
def m_laws_markIntS_l1 (fuel : Nat) (g1 : Int) (g2 : Int) (g3 : (List Int)) : Option (Int × (List Int)) :=
 match fuel with
 | 0 => none
 | fuel + 1 =>
 (bif (decide (g2 < (g3.length : Int))) then
 (idx g3 g2).bind fun v7 =>
 m_laws_markIntS_l1 fuel  (w64 (g1 + 1)) (g2 + 1) (g3.set g2.toNat g1)
 else
 some (g1, g3))
def m_laws_markIntS (fuel : Nat) (x1 : (List Int)) (x2 : Int) : Option (Int × (List Int)) :=
 m_laws_markIntS_l1 fuel  x2 0 x1
def m_laws_markText_l1 (fuel : Nat) (g2 : Int) (g3 : ByteArray) : Option ByteArray :=
 match fuel with
 | 0 => none
 | fuel + 1 =>
 (bif (decide (0 < g2)) then
 (bcat (strOf [(w8 (w64 (48 + (g2.tmod 10))))]) g3).bind fun v6 =>
 m_laws_markText_l1 fuel  (w64 (g2.tdiv 10)) v6
 else
 (bcat (⟨#[109]⟩ : ByteArray) g3).bind fun v7 =>
 some v7)
def m_laws_markText (fuel : Nat) (x1 : Int) : Option ByteArray :=
 (bif (decide (x1 ≤ 0)) then
 some (⟨#[109, 48]⟩ : ByteArray)
 else
 m_laws_markText_l1 fuel  x1 (⟨#[]⟩ : ByteArray))
mutual
def m_laws_markFormS (fuel : Nat) (x1 : (List Form)) (x2 : Int) : Option (Int × (List Form)) :=
 match fuel with
 | 0 => none
 | fuel + 1 =>
 m_laws_markFormS_l1 fuel  x2 0 x1
def m_laws_markFormS_l1 (fuel : Nat) (g1 : Int) (g2 : Int) (g3 : (List Form)) : Option (Int × (List Form)) :=
 match fuel with
 | 0 => none
 | fuel + 1 =>
 (bif (decide (g2 < (g3.length : Int))) then
 (idx g3 g2).bind fun v6 =>
 (m_laws_markText fuel (w64 (g1 + 1))).bind fun v7 =>
 (idx (g3.set g2.toNat (Form.mk g1 v6.name v6.n v6.scopes v6.kids)) g2).bind fun v8 =>
 (idx ((g3.set g2.toNat (Form.mk g1 v6.name v6.n v6.scopes v6.kids)).set g2.toNat (Form.mk v8.kind v7 v8.n v8.scopes v8.kids)) g2).bind fun v9 =>
 (idx (((g3.set g2.toNat (Form.mk g1 v6.name v6.n v6.scopes v6.kids)).set g2.toNat (Form.mk v8.kind v7 v8.n v8.scopes v8.kids)).set g2.toNat (Form.mk v9.kind v9.name (w64 ((w64 (g1 + 1)) + 1)) v9.scopes v9.kids)) g2).bind fun v10 =>
 (m_laws_markIntS fuel v10.scopes (w64 ((w64 ((w64 (g1 + 1)) + 1)) + 1))).bind fun v11 =>
 (idx ((((g3.set g2.toNat (Form.mk g1 v6.name v6.n v6.scopes v6.kids)).set g2.toNat (Form.mk v8.kind v7 v8.n v8.scopes v8.kids)).set g2.toNat (Form.mk v9.kind v9.name (w64 ((w64 (g1 + 1)) + 1)) v9.scopes v9.kids)).set g2.toNat (Form.mk v10.kind v10.name v10.n v11.2 v10.kids)) g2).bind fun v12 =>
 (m_laws_markFormS fuel v12.kids v11.1).bind fun v13 =>
 m_laws_markFormS_l1 fuel  v13.1 (w64 (g2 + 1)) (((((g3.set g2.toNat (Form.mk g1 v6.name v6.n v6.scopes v6.kids)).set g2.toNat (Form.mk v8.kind v7 v8.n v8.scopes v8.kids)).set g2.toNat (Form.mk v9.kind v9.name (w64 ((w64 (g1 + 1)) + 1)) v9.scopes v9.kids)).set g2.toNat (Form.mk v10.kind v10.name v10.n v11.2 v10.kids)).set g2.toNat (Form.mk v12.kind v12.name v12.n v12.scopes v13.2))
 else
 some (g1, g3))
end
def m_laws_heldIntS_l1 (fuel : Nat) (x1 : (List Int)) (g1 : Int) (g2 : Int) : Option Int :=
 match fuel with
 | 0 => none
 | fuel + 1 =>
 (bif (decide (g2 < (x1.length : Int))) then
 (idx x1 g2).bind fun v6 =>
 (bif (decide (v6 ≠ g1)) then
 some (-1)
 else
 m_laws_heldIntS_l1 fuel x1 (w64 (g1 + 1)) (g2 + 1))
 else
 some g1)
def m_laws_heldIntS (fuel : Nat) (x1 : (List Int)) (x2 : Int) : Option Int :=
 m_laws_heldIntS_l1 fuel x1 x2 0
mutual
def m_laws_heldFormS (fuel : Nat) (x1 : (List Form)) (x2 : Int) : Option Int :=
 match fuel with
 | 0 => none
 | fuel + 1 =>
 m_laws_heldFormS_l1 fuel x1 x2 0
def m_laws_heldFormS_l1 (fuel : Nat) (x1 : (List Form)) (g1 : Int) (g2 : Int) : Option Int :=
 match fuel with
 | 0 => none
 | fuel + 1 =>
 (bif (decide (g2 < (x1.length : Int))) then
 (idx x1 g2).bind fun v6 =>
 (bif (decide (v6.kind ≠ g1)) then
 some (-1)
 else
 (idx x1 g2).bind fun v8 =>
 (m_laws_markText fuel (w64 (g1 + 1))).bind fun v9 =>
 (bif (decide (v8.name ≠ v9)) then
 some (-1)
 else
 (idx x1 g2).bind fun v11 =>
 (bif (decide (v11.n ≠ (w64 ((w64 (g1 + 1)) + 1)))) then
 some (-1)
 else
 (idx x1 g2).bind fun v13 =>
 (m_laws_heldIntS fuel v13.scopes (w64 ((w64 ((w64 (g1 + 1)) + 1)) + 1))).bind fun v14 =>
 (bif (decide (v14 < 0)) then
 some (-1)
 else
 (idx x1 g2).bind fun v16 =>
 (m_laws_heldFormS fuel v16.kids v14).bind fun v17 =>
 (bif (decide (v17 < 0)) then
 some (-1)
 else
 m_laws_heldFormS_l1 fuel x1 v17 (g2 + 1))))))
 else
 some g1)
end
end Go.Abs
