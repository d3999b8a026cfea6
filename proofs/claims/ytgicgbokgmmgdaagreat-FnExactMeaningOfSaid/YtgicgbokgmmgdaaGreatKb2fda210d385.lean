/- A part of the proof: what the functions that the law calls answer, as pure values. -/
import Derived.Test.YtgicgbokgmmgdaaGreatK362eb3399492
import Derived.Test.YtgicgbokgmmgdaaGreatK64ea14ca7074
set_option linter.unusedSimpArgs false
set_option linter.unusedVariables false
set_option maxHeartbeats 4000000
namespace Go.Abs
def m_impl_RuleValid (fuel : Nat) (x1 : Rule) (x2 : (List Form)) : Option Bool :=
 (m_impl_PatternValid fuel x1.pattern x2).bind fun v1 =>
 (bif (!v1) then
 some false
 else
 (bif (decide (x1.pattern.kind ≠ 3)) then
 some false
 else
 (bif (decide ((x1.pattern.kids.length : Int) = 0)) then
 some false
 else
 (m_impl_varsOf fuel x1.pattern x2).bind fun v5 =>
 (m_impl_templateOk fuel x1.template v5.1 v5.2).bind fun v6 =>
 some v6)))
def m_laws_eqRule (fuel : Nat) (x1 : Rule) (x2 : Rule) : Option Bool :=
 (m_laws_eqForm fuel x1.pattern x2.pattern).bind fun v1 =>
 (bif (!v1) then
 some false
 else
 (m_laws_eqForm fuel x1.template x2.template).bind fun v3 =>
 (bif (!v3) then
 some false
 else
 some true))
mutual
def m_spec_l5Rules_j2 (fuel : Nat) (x1 : (List Rule)) (x2 : (List Form)) (g1 : Int) (g4 : Bool) : Option Bool :=
 match fuel with
 | 0 => none
 | fuel + 1 =>
 (bif g4 then
 (idx x1 g1).bind fun v7 =>
 (m_spec_l5Rule fuel v7 x2).bind fun v8 =>
 (bif (!v8) then
 some false
 else
 m_spec_l5Rules_l1 fuel x1 x2 (w64 (g1 + 1)))
 else
 (bif (decide ((x1.length : Int) < 10)) then
 (m_spec_l4Literals fuel x2).bind fun v11 =>
 some v11
 else
 some false))
def m_spec_l5Rules_l1 (fuel : Nat) (x1 : (List Rule)) (x2 : (List Form)) (g1 : Int) : Option Bool :=
 match fuel with
 | 0 => none
 | fuel + 1 =>
 (bif (decide (g1 < (x1.length : Int))) then
 m_spec_l5Rules_j2 fuel x1 x2 g1 (decide (g1 < 10))
 else
 m_spec_l5Rules_j2 fuel x1 x2 g1 false)
end
def m_spec_l5Rules (fuel : Nat) (x1 : (List Rule)) (x2 : (List Form)) : Option Bool :=
 m_spec_l5Rules_l1 fuel x1 x2 0
mutual
def m_spec_BindsValid_j5 (fuel : Nat) (x1 : (List Bind)) (g1 : Int) (g19 : Int) (g28 : Bool) : Option Bool :=
 match fuel with
 | 0 => none
 | fuel + 1 =>
 (bif g28 then
 some false
 else
 m_spec_BindsValid_l4 fuel x1 g1 (w64 (g19 + 1)))
def m_spec_BindsValid_l4 (fuel : Nat) (x1 : (List Bind)) (g1 : Int) (g19 : Int) : Option Bool :=
 match fuel with
 | 0 => none
 | fuel + 1 =>
 (bif (decide (g19 < g1)) then
 (idx x1 g19).bind fun v22 =>
 (idx x1 g1).bind fun v23 =>
 (bif (decide (v22.name = v23.name)) then
 (idx x1 g19).bind fun v25 =>
 (idx x1 g1).bind fun v26 =>
 (m_spec_l1Ints fuel v25.scopes v26.scopes).bind fun v27 =>
 m_spec_BindsValid_j5 fuel x1 g1 g19 v27
 else
 m_spec_BindsValid_j5 fuel x1 g1 g19 false)
 else
 m_spec_BindsValid_l1 fuel x1 (w64 (g1 + 1)))
def m_spec_BindsValid_j3 (fuel : Nat) (x1 : (List Bind)) (g1 : Int) (g16 : Bool) : Option Bool :=
 match fuel with
 | 0 => none
 | fuel + 1 =>
 (bif g16 then
 some false
 else
 m_spec_BindsValid_l4 fuel x1 g1 0)
def m_spec_BindsValid_j2 (fuel : Nat) (x1 : (List Bind)) (g1 : Int) (g4 : Bool) : Option Bool :=
 match fuel with
 | 0 => none
 | fuel + 1 =>
 (bif g4 then
 (idx x1 g1).bind fun v7 =>
 (m_spec_NameValid fuel v7.name).bind fun v8 =>
 (bif (!v8) then
 m_spec_BindsValid_j3 fuel x1 g1 true
 else
 (idx x1 g1).bind fun v10 =>
 (m_spec_l1Scopes fuel v10.scopes).bind fun v11 =>
 (bif (!v11) then
 m_spec_BindsValid_j3 fuel x1 g1 true
 else
 (idx x1 g1).bind fun v13 =>
 (bif (decide (v13.id < 1)) then
 m_spec_BindsValid_j3 fuel x1 g1 true
 else
 (idx x1 g1).bind fun v15 =>
 m_spec_BindsValid_j3 fuel x1 g1 (decide (999 < v15.id)))))
 else
 some (decide ((x1.length : Int) ≤ 60)))
def m_spec_BindsValid_l1 (fuel : Nat) (x1 : (List Bind)) (g1 : Int) : Option Bool :=
 match fuel with
 | 0 => none
 | fuel + 1 =>
 (bif (decide (g1 < (x1.length : Int))) then
 m_spec_BindsValid_j2 fuel x1 g1 (decide (g1 ≤ 60))
 else
 m_spec_BindsValid_j2 fuel x1 g1 false)
end
def m_spec_BindsValid (fuel : Nat) (x1 : (List Bind)) : Option Bool :=
 m_spec_BindsValid_l1 fuel x1 0
def m_spec_l2Has_l1 (fuel : Nat) (x1 : (List Int)) (x2 : Int) (g1 : Int) : Option Bool :=
 match fuel with
 | 0 => none
 | fuel + 1 =>
 (bif (decide (g1 < (x1.length : Int))) then
 (idx x1 g1).bind fun v5 =>
 (bif (decide (v5 = x2)) then
 some true
 else
 m_spec_l2Has_l1 fuel x1 x2 (g1 + 1))
 else
 some false)
def m_spec_l2Has (fuel : Nat) (x1 : (List Int)) (x2 : Int) : Option Bool :=
 m_spec_l2Has_l1 fuel x1 x2 0
def m_spec_ScopesWithin_l1 (fuel : Nat) (x1 : (List Int)) (x2 : (List Int)) (g1 : Int) : Option Bool :=
 match fuel with
 | 0 => none
 | fuel + 1 =>
 (bif (decide (g1 < (x1.length : Int))) then
 (idx x1 g1).bind fun v5 =>
 (m_spec_l2Has fuel x2 v5).bind fun v6 =>
 (bif (!v6) then
 some false
 else
 m_spec_ScopesWithin_l1 fuel x1 x2 (g1 + 1))
 else
 some true)
def m_spec_ScopesWithin (fuel : Nat) (x1 : (List Int)) (x2 : (List Int)) : Option Bool :=
 m_spec_ScopesWithin_l1 fuel x1 x2 0
mutual
def m_spec_l3Fitting_j2 (fuel : Nat) (x1 : (List Bind)) (x2 : Form) (g1 : (List Int)) (g2 : Int) (g10 : Bool) : Option (List Int) :=
 match fuel with
 | 0 => none
 | fuel + 1 =>
 (bif g10 then
 chk (decide ((g1.length + [g2].length) * 8 ≤ 140737488355328)) <|
 m_spec_l3Fitting_l1 fuel x1 x2 (g1 ++ [g2]) (g2 + 1)
 else
 m_spec_l3Fitting_l1 fuel x1 x2 g1 (g2 + 1))
def m_spec_l3Fitting_l1 (fuel : Nat) (x1 : (List Bind)) (x2 : Form) (g1 : (List Int)) (g2 : Int) : Option (List Int) :=
 match fuel with
 | 0 => none
 | fuel + 1 =>
 (bif (decide (g2 < (x1.length : Int))) then
 (idx x1 g2).bind fun v6 =>
 (bif (decide (v6.name = x2.name)) then
 (idx x1 g2).bind fun v8 =>
 (m_spec_ScopesWithin fuel v8.scopes x2.scopes).bind fun v9 =>
 m_spec_l3Fitting_j2 fuel x1 x2 g1 g2 v9
 else
 m_spec_l3Fitting_j2 fuel x1 x2 g1 g2 false)
 else
 some g1)
end
def m_spec_l3Fitting (fuel : Nat) (x1 : (List Bind)) (x2 : Form) : Option (List Int) :=
 m_spec_l3Fitting_l1 fuel x1 x2 ([] : List Int) 0
mutual
def m_spec_l3Find_j4 (fuel : Nat) (x1 : (List Bind)) (v1 : (List Int)) (g2 : Int) (g7 : Int) (g16 : Bool) : Option (Int × Int) :=
 match fuel with
 | 0 => none
 | fuel + 1 =>
 m_spec_l3Find_l3 fuel x1 v1 g2 g16 (g7 + 1)
def m_spec_l3Find_l3 (fuel : Nat) (x1 : (List Bind)) (v1 : (List Int)) (g2 : Int) (g6 : Bool) (g7 : Int) : Option (Int × Int) :=
 match fuel with
 | 0 => none
 | fuel + 1 =>
 (bif (decide (g7 < (v1.length : Int))) then
 (bif g6 then
 (idx v1 g7).bind fun v11 =>
 (idx x1 v11).bind fun v12 =>
 (idx v1 g2).bind fun v13 =>
 (idx x1 v13).bind fun v14 =>
 (m_spec_ScopesWithin fuel v12.scopes v14.scopes).bind fun v15 =>
 m_spec_l3Find_j4 fuel x1 v1 g2 g7 v15
 else
 m_spec_l3Find_j4 fuel x1 v1 g2 g7 false)
 else
 m_spec_l3Find_j2 fuel x1 v1 g2 g6)
def m_spec_l3Find_j2 (fuel : Nat) (x1 : (List Bind)) (v1 : (List Int)) (g2 : Int) (g18 : Bool) : Option (Int × Int) :=
 match fuel with
 | 0 => none
 | fuel + 1 =>
 (bif g18 then
 (idx v1 g2).bind fun v21 =>
 some (v21, 1)
 else
 m_spec_l3Find_l1 fuel x1 v1 (g2 + 1))
def m_spec_l3Find_l1 (fuel : Nat) (x1 : (List Bind)) (v1 : (List Int)) (g2 : Int) : Option (Int × Int) :=
 match fuel with
 | 0 => none
 | fuel + 1 =>
 (bif (decide (g2 < (v1.length : Int))) then
 m_spec_l3Find_l3 fuel x1 v1 g2 true 0
 else
 (bif (decide (0 < (v1.length : Int))) then
 some (0, 2)
 else
 some (0, 0)))
end
def m_spec_l3Find (fuel : Nat) (x1 : (List Bind)) (x2 : Form) : Option (Int × Int) :=
 (m_spec_l3Fitting fuel x1 x2).bind fun v1 =>
 m_spec_l3Find_l1 fuel x1 v1 0
def m_laws_szBind (fuel : Nat) (x1 : Bind) (x2 : Int) : Option Int :=
 (bif (decide ((w64 (x2 - (x1.name.size : Int))) < 0)) then
 some (-1)
 else
 (m_laws_szIntS fuel x1.scopes (w64 (x2 - (x1.name.size : Int)))).bind fun v2 =>
 (bif (decide (v2 < 0)) then
 some (-1)
 else
 some v2))
def m_laws_szBindS_l1 (fuel : Nat) (x1 : (List Bind)) (g2 : Int) (g3 : Int) : Option Int :=
 match fuel with
 | 0 => none
 | fuel + 1 =>
 (bif (decide (g3 < (x1.length : Int))) then
 (idx x1 g3).bind fun v7 =>
 (m_laws_szBind fuel v7 g2).bind fun v8 =>
 (bif (decide (v8 < 0)) then
 some (-1)
 else
 m_laws_szBindS_l1 fuel x1 v8 (g3 + 1))
 else
 some g2)
def m_laws_szBindS (fuel : Nat) (x1 : (List Bind)) (x2 : Int) : Option Int :=
 (bif (decide ((w64 (x2 - (x1.length : Int))) < 0)) then
 some (-1)
 else
 m_laws_szBindS_l1 fuel x1 (w64 (x2 - (x1.length : Int))) 0)
def m_laws_szRuleS_l1 (fuel : Nat) (x1 : (List Rule)) (g2 : Int) (g3 : Int) : Option Int :=
 match fuel with
 | 0 => none
 | fuel + 1 =>
 (bif (decide (g3 < (x1.length : Int))) then
 (idx x1 g3).bind fun v7 =>
 (m_laws_szRule fuel v7 g2).bind fun v8 =>
 (bif (decide (v8 < 0)) then
 some (-1)
 else
 m_laws_szRuleS_l1 fuel x1 v8 (g3 + 1))
 else
 some g2)
def m_laws_szRuleS (fuel : Nat) (x1 : (List Rule)) (x2 : Int) : Option Int :=
 (bif (decide ((w64 (x2 - (x1.length : Int))) < 0)) then
 some (-1)
 else
 m_laws_szRuleS_l1 fuel x1 (w64 (x2 - (x1.length : Int))) 0)
def m_laws_szMacro (fuel : Nat) (x1 : Macro) (x2 : Int) : Option Int :=
 (m_laws_szFormS fuel x1.literals x2).bind fun v1 =>
 (bif (decide (v1 < 0)) then
 some (-1)
 else
 (m_laws_szRuleS fuel x1.rules v1).bind fun v3 =>
 (bif (decide (v3 < 0)) then
 some (-1)
 else
 some v3))
def m_laws_szMacroS_l1 (fuel : Nat) (x1 : (List Macro)) (g2 : Int) (g3 : Int) : Option Int :=
 match fuel with
 | 0 => none
 | fuel + 1 =>
 (bif (decide (g3 < (x1.length : Int))) then
 (idx x1 g3).bind fun v7 =>
 (m_laws_szMacro fuel v7 g2).bind fun v8 =>
 (bif (decide (v8 < 0)) then
 some (-1)
 else
 m_laws_szMacroS_l1 fuel x1 v8 (g3 + 1))
 else
 some g2)
def m_laws_szMacroS (fuel : Nat) (x1 : (List Macro)) (x2 : Int) : Option Int :=
 (bif (decide ((w64 (x2 - (x1.length : Int))) < 0)) then
 some (-1)
 else
 m_laws_szMacroS_l1 fuel x1 (w64 (x2 - (x1.length : Int))) 0)
def m_laws_szExpansion (fuel : Nat) (x1 : Expansion) (x2 : Int) : Option Int :=
 (m_laws_szBindS fuel x1.binds x2).bind fun v1 =>
 (bif (decide (v1 < 0)) then
 some (-1)
 else
 (m_laws_szMacroS fuel x1.macros v1).bind fun v3 =>
 (bif (decide (v3 < 0)) then
 some (-1)
 else
 some v3))
def m_laws_toBind (fuel : Nat) (x1 : Bind) : Option Bind :=
 (m_laws_toIntS fuel x1.scopes).bind fun v1 =>
 some (Bind.mk x1.name v1 x1.id)
def m_laws_toBindS_l1 (fuel : Nat) (x1 : (List Bind)) (g2 : Int) (g3 : (List Bind)) : Option (List Bind) :=
 match fuel with
 | 0 => none
 | fuel + 1 =>
 (bif (decide (g2 < (x1.length : Int))) then
 (idx x1 g2).bind fun v7 =>
 (m_laws_toBind fuel v7).bind fun v8 =>
 (idx g3 g2).bind fun v9 =>
 m_laws_toBindS_l1 fuel x1 (g2 + 1) (g3.set g2.toNat v8)
 else
 some g3)
def m_laws_toBindS (fuel : Nat) (x1 : (List Bind)) : Option (List Bind) :=
 chk (decide (0 ≤ (x1.length : Int)) && decide ((x1.length : Int).toNat * 48 ≤ 140737488355328)) <|
 m_laws_toBindS_l1 fuel x1 0 (List.replicate (x1.length : Int).toNat (Bind.mk (⟨#[]⟩ : ByteArray) ([] : List Int) 0))
def m_laws_toRuleS_l1 (fuel : Nat) (x1 : (List Rule)) (g2 : Int) (g3 : (List Rule)) : Option (List Rule) :=
 match fuel with
 | 0 => none
 | fuel + 1 =>
 (bif (decide (g2 < (x1.length : Int))) then
 (idx x1 g2).bind fun v7 =>
 (m_laws_toRule fuel v7).bind fun v8 =>
 (idx g3 g2).bind fun v9 =>
 m_laws_toRuleS_l1 fuel x1 (g2 + 1) (g3.set g2.toNat v8)
 else
 some g3)
def m_laws_toRuleS (fuel : Nat) (x1 : (List Rule)) : Option (List Rule) :=
 chk (decide (0 ≤ (x1.length : Int)) && decide ((x1.length : Int).toNat * 160 ≤ 140737488355328)) <|
 m_laws_toRuleS_l1 fuel x1 0 (List.replicate (x1.length : Int).toNat (Rule.mk (Form.mk 0 (⟨#[]⟩ : ByteArray) 0 ([] : List Int) ([] : List Form)) (Form.mk 0 (⟨#[]⟩ : ByteArray) 0 ([] : List Int) ([] : List Form))))
def m_laws_toMacro (fuel : Nat) (x1 : Macro) : Option Macro :=
 (m_laws_toFormS fuel x1.literals).bind fun v1 =>
 (m_laws_toRuleS fuel x1.rules).bind fun v2 =>
 some (Macro.mk x1.id v1 v2)
def m_laws_toMacroS_l1 (fuel : Nat) (x1 : (List Macro)) (g2 : Int) (g3 : (List Macro)) : Option (List Macro) :=
 match fuel with
 | 0 => none
 | fuel + 1 =>
 (bif (decide (g2 < (x1.length : Int))) then
 (idx x1 g2).bind fun v7 =>
 (m_laws_toMacro fuel v7).bind fun v8 =>
 (idx g3 g2).bind fun v9 =>
 m_laws_toMacroS_l1 fuel x1 (g2 + 1) (g3.set g2.toNat v8)
 else
 some g3)
def m_laws_toMacroS (fuel : Nat) (x1 : (List Macro)) : Option (List Macro) :=
 chk (decide (0 ≤ (x1.length : Int)) && decide ((x1.length : Int).toNat * 56 ≤ 140737488355328)) <|
 m_laws_toMacroS_l1 fuel x1 0 (List.replicate (x1.length : Int).toNat (Macro.mk 0 ([] : List Form) ([] : List Rule)))
def m_laws_toExpansion (fuel : Nat) (x1 : Expansion) : Option Expansion :=
 (m_laws_toBindS fuel x1.binds).bind fun v1 =>
 (m_laws_toMacroS fuel x1.macros).bind fun v2 =>
 some (Expansion.mk v1 v2 x1.scope x1.id x1.steps)
def m_spec_l7In (fuel : Nat) (x1 : Int) (x2 : Int) (x3 : Int) : Option Bool :=
 (bif (decide (x2 ≤ x1)) then
 some (decide (x1 ≤ x3))
 else
 some false)
def m_spec_l7Macro_l1 (fuel : Nat) (x1 : Expansion) (x2 : Int) (g1 : Int) : Option Int :=
 match fuel with
 | 0 => none
 | fuel + 1 =>
 (bif (decide (g1 < (x1.macros.length : Int))) then
 (idx x1.macros g1).bind fun v5 =>
 (bif (decide (v5.id = x2)) then
 some g1
 else
 m_spec_l7Macro_l1 fuel x1 x2 (g1 + 1))
 else
 some (-1))
def m_spec_l7Macro (fuel : Nat) (x1 : Expansion) (x2 : Int) : Option Int :=
 m_spec_l7Macro_l1 fuel x1 x2 0
mutual
def m_spec_ExpansionValid_l3 (fuel : Nat) (x1 : Expansion) (g12 : Int) : Option Bool :=
 match fuel with
 | 0 => none
 | fuel + 1 =>
 (bif (decide (g12 < (x1.binds.length : Int))) then
 (idx x1.binds g12).bind fun v16 =>
 (bif (decide (x1.id < v16.id)) then
 some false
 else
 (idx x1.binds g12).bind fun v18 =>
 (bif (decide (5 < v18.id)) then
 (idx x1.binds g12).bind fun v20 =>
 (bif (decide (v20.id ≤ 10)) then
 some false
 else
 m_spec_ExpansionValid_l3 fuel x1 (g12 + 1))
 else
 m_spec_ExpansionValid_l3 fuel x1 (g12 + 1)))
 else
 m_spec_ExpansionValid_j2 fuel x1 )
def m_spec_ExpansionValid_l4 (fuel : Nat) (x1 : Expansion) (g23 : Int) : Option Bool :=
 match fuel with
 | 0 => none
 | fuel + 1 =>
 (bif (decide (g23 < (x1.macros.length : Int))) then
 (idx x1.macros g23).bind fun v27 =>
 (bif (decide (v27.id ≤ 10)) then
 some false
 else
 (idx x1.macros g23).bind fun v29 =>
 (bif (decide (x1.id < v29.id)) then
 some false
 else
 (idx x1.macros g23).bind fun v31 =>
 (m_spec_l7Macro fuel x1 v31.id).bind fun v32 =>
 (bif (decide (v32 ≠ g23)) then
 some false
 else
 (idx x1.macros g23).bind fun v34 =>
 (idx x1.macros g23).bind fun v35 =>
 (m_spec_l5Rules fuel v34.rules v35.literals).bind fun v36 =>
 (bif (!v36) then
 some false
 else
 m_spec_ExpansionValid_l4 fuel x1 (g23 + 1)))))
 else
 some true)
def m_spec_ExpansionValid_j2 (fuel : Nat) (x1 : Expansion) : Option Bool :=
 match fuel with
 | 0 => none
 | fuel + 1 =>
 m_spec_ExpansionValid_l4 fuel x1 0
def m_spec_ExpansionValid_j1 (fuel : Nat) (x1 : Expansion) (g9 : Bool) : Option Bool :=
 match fuel with
 | 0 => none
 | fuel + 1 =>
 (bif g9 then
 some false
 else
 m_spec_ExpansionValid_l3 fuel x1 0)
end
def m_spec_ExpansionValid (fuel : Nat) (x1 : Expansion) : Option Bool :=
 (m_spec_BindsValid fuel x1.binds).bind fun v1 =>
 (bif (!v1) then
 m_spec_ExpansionValid_j1 fuel x1 true
 else
 (bif (decide (60 < (x1.macros.length : Int))) then
 m_spec_ExpansionValid_j1 fuel x1 true
 else
 (m_spec_l7In fuel x1.scope 0 99).bind fun v4 =>
 (bif (!v4) then
 m_spec_ExpansionValid_j1 fuel x1 true
 else
 (m_spec_l7In fuel x1.id 10 999).bind fun v6 =>
 (bif (!v6) then
 m_spec_ExpansionValid_j1 fuel x1 true
 else
 (m_spec_l7In fuel x1.steps 0 60).bind fun v8 =>
 m_spec_ExpansionValid_j1 fuel x1 (!v8)))))
def m_impl_BindsValid_1 (fuel : Nat) (x1 : Bind) (o1 : Bind) : Option Bool :=
 (bif (decide (x1.name = o1.name)) then
 (m_slices_Equal_int fuel x1.scopes o1.scopes).bind fun v2 =>
 some v2
 else
 some false)
def m_slices_IndexFunc_Bind_BindsValid_1_l1 (fuel : Nat) (x1 : (List Bind)) (o1 : Bind) (g1 : Int) : Option Int :=
 match fuel with
 | 0 => none
 | fuel + 1 =>
 (bif (decide (g1 < (x1.length : Int))) then
 (idx x1 g1).bind fun v5 =>
 (m_impl_BindsValid_1 fuel v5 o1).bind fun v6 =>
 (bif v6 then
 some g1
 else
 m_slices_IndexFunc_Bind_BindsValid_1_l1 fuel x1 o1 (g1 + 1))
 else
 some (-1))
def m_slices_IndexFunc_Bind_BindsValid_1 (fuel : Nat) (x1 : (List Bind)) (o1 : Bind) : Option Int :=
 m_slices_IndexFunc_Bind_BindsValid_1_l1 fuel x1 o1 0
def m_slices_ContainsFunc_Bind_BindsValid_1 (fuel : Nat) (x1 : (List Bind)) (o1 : Bind) : Option Bool :=
 (m_slices_IndexFunc_Bind_BindsValid_1 fuel x1 o1).bind fun v1 =>
 some (decide (0 ≤ v1))
mutual
def m_impl_BindsValid_j2 (fuel : Nat) (x1 : (List Bind)) (g1 : Int) (v5 : Bind) (g11 : Bool) : Option Bool :=
 match fuel with
 | 0 => none
 | fuel + 1 =>
 (bif g11 then
 some false
 else
 (sub x1 0 g1).bind fun v14 =>
 (m_slices_ContainsFunc_Bind_BindsValid_1 fuel v14 v5).bind fun v15 =>
 (bif v15 then
 some false
 else
 m_impl_BindsValid_l1 fuel x1 (g1 + 1)))
def m_impl_BindsValid_l1 (fuel : Nat) (x1 : (List Bind)) (g1 : Int) : Option Bool :=
 match fuel with
 | 0 => none
 | fuel + 1 =>
 (bif (decide (g1 < (x1.length : Int))) then
 (idx x1 g1).bind fun v5 =>
 (m_impl_NameValid fuel v5.name).bind fun v6 =>
 (bif (!v6) then
 m_impl_BindsValid_j2 fuel x1 g1 v5 true
 else
 (m_impl_scopesOk fuel v5.scopes).bind fun v8 =>
 (bif (!v8) then
 m_impl_BindsValid_j2 fuel x1 g1 v5 true
 else
 (m_impl_within fuel v5.id 1 999).bind fun v10 =>
 m_impl_BindsValid_j2 fuel x1 g1 v5 (!v10)))
 else
 some (decide ((x1.length : Int) ≤ 60)))
end
def m_impl_BindsValid (fuel : Nat) (x1 : (List Bind)) : Option Bool :=
 m_impl_BindsValid_l1 fuel x1 0
def m_impl_ExpansionValid_1 (fuel : Nat) (x1 : Bind) (o1 : Expansion) : Option Bool :=
 (bif (decide (o1.id < x1.id)) then
 some true
 else
 (m_impl_within fuel x1.id 6 10).bind fun v2 =>
 some v2)
def m_slices_IndexFunc_Bind_ExpansionValid_1_l1 (fuel : Nat) (x1 : (List Bind)) (o1 : Expansion) (g1 : Int) : Option Int :=
 match fuel with
 | 0 => none
 | fuel + 1 =>
 (bif (decide (g1 < (x1.length : Int))) then
 (idx x1 g1).bind fun v5 =>
 (m_impl_ExpansionValid_1 fuel v5 o1).bind fun v6 =>
 (bif v6 then
 some g1
 else
 m_slices_IndexFunc_Bind_ExpansionValid_1_l1 fuel x1 o1 (g1 + 1))
 else
 some (-1))
def m_slices_IndexFunc_Bind_ExpansionValid_1 (fuel : Nat) (x1 : (List Bind)) (o1 : Expansion) : Option Int :=
 m_slices_IndexFunc_Bind_ExpansionValid_1_l1 fuel x1 o1 0
def m_slices_ContainsFunc_Bind_ExpansionValid_1 (fuel : Nat) (x1 : (List Bind)) (o1 : Expansion) : Option Bool :=
 (m_slices_IndexFunc_Bind_ExpansionValid_1 fuel x1 o1).bind fun v1 =>
 some (decide (0 ≤ v1))
def m_impl_rulesOk_1 (fuel : Nat) (x1 : Rule) (o1 : (List Form)) : Option Bool :=
 (m_impl_RuleValid fuel x1 o1).bind fun v1 =>
 some (!v1)
def m_slices_IndexFunc_Rule_rulesOk_1_l1 (fuel : Nat) (x1 : (List Rule)) (o1 : (List Form)) (g1 : Int) : Option Int :=
 match fuel with
 | 0 => none
 | fuel + 1 =>
 (bif (decide (g1 < (x1.length : Int))) then
 (idx x1 g1).bind fun v5 =>
 (m_impl_rulesOk_1 fuel v5 o1).bind fun v6 =>
 (bif v6 then
 some g1
 else
 m_slices_IndexFunc_Rule_rulesOk_1_l1 fuel x1 o1 (g1 + 1))
 else
 some (-1))
def m_slices_IndexFunc_Rule_rulesOk_1 (fuel : Nat) (x1 : (List Rule)) (o1 : (List Form)) : Option Int :=
 m_slices_IndexFunc_Rule_rulesOk_1_l1 fuel x1 o1 0
def m_slices_ContainsFunc_Rule_rulesOk_1 (fuel : Nat) (x1 : (List Rule)) (o1 : (List Form)) : Option Bool :=
 (m_slices_IndexFunc_Rule_rulesOk_1 fuel x1 o1).bind fun v1 =>
 some (decide (0 ≤ v1))
def m_impl_rulesOk (fuel : Nat) (x1 : (List Rule)) (x2 : (List Form)) : Option Bool :=
 (bif (decide ((x1.length : Int) ≤ 9)) then
 (m_impl_literalsOk fuel x2).bind fun v2 =>
 (bif v2 then
 (m_slices_ContainsFunc_Rule_rulesOk_1 fuel x1 x2).bind fun v4 =>
 some (!v4)
 else
 some false)
 else
 some false)
def m_impl_macroAt_1 (fuel : Nat) (x1 : Macro) (o1 : Int) : Option Bool :=
 some (decide (x1.id = o1))
def m_slices_IndexFunc_Macro_macroAt_1_l1 (fuel : Nat) (x1 : (List Macro)) (o1 : Int) (g1 : Int) : Option Int :=
 match fuel with
 | 0 => none
 | fuel + 1 =>
 (bif (decide (g1 < (x1.length : Int))) then
 (idx x1 g1).bind fun v5 =>
 (m_impl_macroAt_1 fuel v5 o1).bind fun v6 =>
 (bif v6 then
 some g1
 else
 m_slices_IndexFunc_Macro_macroAt_1_l1 fuel x1 o1 (g1 + 1))
 else
 some (-1))
def m_slices_IndexFunc_Macro_macroAt_1 (fuel : Nat) (x1 : (List Macro)) (o1 : Int) : Option Int :=
 m_slices_IndexFunc_Macro_macroAt_1_l1 fuel x1 o1 0
def m_impl_macroAt (fuel : Nat) (x1 : (List Macro)) (x2 : Int) : Option Int :=
 (m_slices_IndexFunc_Macro_macroAt_1 fuel x1 x2).bind fun v1 =>
 some v1
mutual
def m_impl_ExpansionValid_l2 (fuel : Nat) (x1 : Expansion) (g14 : Int) : Option Bool :=
 match fuel with
 | 0 => none
 | fuel + 1 =>
 (bif (decide (g14 < (x1.macros.length : Int))) then
 (idx x1.macros g14).bind fun v18 =>
 (m_impl_rulesOk fuel v18.rules v18.literals).bind fun v19 =>
 (bif (!v19) then
 some false
 else
 (m_impl_within fuel v18.id 11 x1.id).bind fun v21 =>
 (bif (!v21) then
 some false
 else
 (sub x1.macros 0 g14).bind fun v23 =>
 (m_impl_macroAt fuel v23 v18.id).bind fun v24 =>
 (bif (decide (0 ≤ v24)) then
 some false
 else
 m_impl_ExpansionValid_l2 fuel x1 (g14 + 1))))
 else
 some true)
def m_impl_ExpansionValid_j1 (fuel : Nat) (x1 : Expansion) (g9 : Bool) : Option Bool :=
 match fuel with
 | 0 => none
 | fuel + 1 =>
 (bif g9 then
 some false
 else
 (m_slices_ContainsFunc_Bind_ExpansionValid_1 fuel x1.binds x1).bind fun v12 =>
 (bif v12 then
 some false
 else
 m_impl_ExpansionValid_l2 fuel x1 0))
end
def m_impl_ExpansionValid (fuel : Nat) (x1 : Expansion) : Option Bool :=
 (m_impl_BindsValid fuel x1.binds).bind fun v1 =>
 (bif (!v1) then
 m_impl_ExpansionValid_j1 fuel x1 true
 else
 (m_impl_within fuel x1.scope 0 99).bind fun v3 =>
 (bif (!v3) then
 m_impl_ExpansionValid_j1 fuel x1 true
 else
 (m_impl_within fuel x1.id 10 999).bind fun v5 =>
 (bif (!v5) then
 m_impl_ExpansionValid_j1 fuel x1 true
 else
 (m_impl_within fuel x1.steps 0 60).bind fun v7 =>
 (bif (!v7) then
 m_impl_ExpansionValid_j1 fuel x1 true
 else
 m_impl_ExpansionValid_j1 fuel x1 (decide (60 < (x1.macros.length : Int)))))))
def m_laws_eqBind (fuel : Nat) (x1 : Bind) (x2 : Bind) : Option Bool :=
 (bif (decide (x1.name ≠ x2.name)) then
 some false
 else
 (m_laws_eqIntS fuel x1.scopes x2.scopes).bind fun v2 =>
 (bif (!v2) then
 some false
 else
 (bif (decide (x1.id ≠ x2.id)) then
 some false
 else
 some true)))
def m_laws_eqBindS_l1 (fuel : Nat) (x1 : (List Bind)) (x2 : (List Bind)) (g2 : Int) : Option Bool :=
 match fuel with
 | 0 => none
 | fuel + 1 =>
 (bif (decide (g2 < (x1.length : Int))) then
 (idx x1 g2).bind fun v6 =>
 (idx x2 g2).bind fun v7 =>
 (m_laws_eqBind fuel v6 v7).bind fun v8 =>
 (bif (!v8) then
 some false
 else
 m_laws_eqBindS_l1 fuel x1 x2 (g2 + 1))
 else
 some true)
def m_laws_eqBindS (fuel : Nat) (x1 : (List Bind)) (x2 : (List Bind)) : Option Bool :=
 (bif (decide ((x1.length : Int) ≠ (x2.length : Int))) then
 some false
 else
 m_laws_eqBindS_l1 fuel x1 x2 0)
def m_laws_eqRuleS_l1 (fuel : Nat) (x1 : (List Rule)) (x2 : (List Rule)) (g2 : Int) : Option Bool :=
 match fuel with
 | 0 => none
 | fuel + 1 =>
 (bif (decide (g2 < (x1.length : Int))) then
 (idx x1 g2).bind fun v6 =>
 (idx x2 g2).bind fun v7 =>
 (m_laws_eqRule fuel v6 v7).bind fun v8 =>
 (bif (!v8) then
 some false
 else
 m_laws_eqRuleS_l1 fuel x1 x2 (g2 + 1))
 else
 some true)
def m_laws_eqRuleS (fuel : Nat) (x1 : (List Rule)) (x2 : (List Rule)) : Option Bool :=
 (bif (decide ((x1.length : Int) ≠ (x2.length : Int))) then
 some false
 else
 m_laws_eqRuleS_l1 fuel x1 x2 0)
def m_laws_eqMacro (fuel : Nat) (x1 : Macro) (x2 : Macro) : Option Bool :=
 (bif (decide (x1.id ≠ x2.id)) then
 some false
 else
 (m_laws_eqFormS fuel x1.literals x2.literals).bind fun v2 =>
 (bif (!v2) then
 some false
 else
 (m_laws_eqRuleS fuel x1.rules x2.rules).bind fun v4 =>
 (bif (!v4) then
 some false
 else
 some true)))
def m_laws_eqMacroS_l1 (fuel : Nat) (x1 : (List Macro)) (x2 : (List Macro)) (g2 : Int) : Option Bool :=
 match fuel with
 | 0 => none
 | fuel + 1 =>
 (bif (decide (g2 < (x1.length : Int))) then
 (idx x1 g2).bind fun v6 =>
 (idx x2 g2).bind fun v7 =>
 (m_laws_eqMacro fuel v6 v7).bind fun v8 =>
 (bif (!v8) then
 some false
 else
 m_laws_eqMacroS_l1 fuel x1 x2 (g2 + 1))
 else
 some true)
def m_laws_eqMacroS (fuel : Nat) (x1 : (List Macro)) (x2 : (List Macro)) : Option Bool :=
 (bif (decide ((x1.length : Int) ≠ (x2.length : Int))) then
 some false
 else
 m_laws_eqMacroS_l1 fuel x1 x2 0)
def m_laws_eqExpansion (fuel : Nat) (x1 : Expansion) (x2 : Expansion) : Option Bool :=
 (m_laws_eqBindS fuel x1.binds x2.binds).bind fun v1 =>
 (bif (!v1) then
 some false
 else
 (m_laws_eqMacroS fuel x1.macros x2.macros).bind fun v3 =>
 (bif (!v3) then
 some false
 else
 (bif (decide (x1.scope ≠ x2.scope)) then
 some false
 else
 (bif (decide (x1.id ≠ x2.id)) then
 some false
 else
 (bif (decide (x1.steps ≠ x2.steps)) then
 some false
 else
 some true)))))
def m_spec_l7Meaning (fuel : Nat) (x1 : Expansion) (x2 : Form) : Option (Int × Int) :=
 (m_spec_l3Find fuel x1.binds x2).bind fun v1 =>
 (bif (decide (v1.2 = 0)) then
 some (0, 0)
 else
 (bif (decide (v1.2 = 2)) then
 some (4, 0)
 else
 (idx x1.binds v1.1).bind fun v4 =>
 (bif (decide (v4.id ≤ 5)) then
 some (1, v4.id)
 else
 (m_spec_l7Macro fuel x1 v4.id).bind fun v6 =>
 (bif (decide (0 ≤ v6)) then
 some (2, v4.id)
 else
 some (3, v4.id)))))
def m_spec_MeaningOf_j1 (fuel : Nat) (x1 : Expansion) (x2 : Form) (g4 : Bool) : Option (Int × Int) :=
 match fuel with
 | 0 => none
 | fuel + 1 =>
 (bif g4 then
 some (0, 0)
 else
 (m_spec_l7Meaning fuel x1 x2).bind fun v7 =>
 some (v7.1, v7.2))
def m_spec_MeaningOf (fuel : Nat) (x1 : Expansion) (x2 : Form) : Option (Int × Int) :=
 (m_spec_ExpansionValid fuel x1).bind fun v1 =>
 (bif (!v1) then
 m_spec_MeaningOf_j1 fuel x1 x2 true
 else
 (m_spec_l3Is fuel x2).bind fun v3 =>
 m_spec_MeaningOf_j1 fuel x1 x2 (!v3))
def m_slices_Index_int_l1 (fuel : Nat) (x1 : (List Int)) (x2 : Int) (g1 : Int) : Option Int :=
 match fuel with
 | 0 => none
 | fuel + 1 =>
 (bif (decide (g1 < (x1.length : Int))) then
 (idx x1 g1).bind fun v5 =>
 (bif (decide (x2 = v5)) then
 some g1
 else
 m_slices_Index_int_l1 fuel x1 x2 (g1 + 1))
 else
 some (-1))
def m_slices_Index_int (fuel : Nat) (x1 : (List Int)) (x2 : Int) : Option Int :=
 m_slices_Index_int_l1 fuel x1 x2 0
def m_slices_Contains_int (fuel : Nat) (x1 : (List Int)) (x2 : Int) : Option Bool :=
 (m_slices_Index_int fuel x1 x2).bind fun v1 =>
 some (decide (0 ≤ v1))
def m_impl_ScopesWithin_1 (fuel : Nat) (x1 : Int) (o1 : (List Int)) : Option Bool :=
 (m_slices_Contains_int fuel o1 x1).bind fun v1 =>
 some (!v1)
def m_slices_IndexFunc_int_ScopesWithin_1_l1 (fuel : Nat) (x1 : (List Int)) (o1 : (List Int)) (g1 : Int) : Option Int :=
 match fuel with
 | 0 => none
 | fuel + 1 =>
 (bif (decide (g1 < (x1.length : Int))) then
 (idx x1 g1).bind fun v5 =>
 (m_impl_ScopesWithin_1 fuel v5 o1).bind fun v6 =>
 (bif v6 then
 some g1
 else
 m_slices_IndexFunc_int_ScopesWithin_1_l1 fuel x1 o1 (g1 + 1))
 else
 some (-1))
def m_slices_IndexFunc_int_ScopesWithin_1 (fuel : Nat) (x1 : (List Int)) (o1 : (List Int)) : Option Int :=
 m_slices_IndexFunc_int_ScopesWithin_1_l1 fuel x1 o1 0
def m_slices_ContainsFunc_int_ScopesWithin_1 (fuel : Nat) (x1 : (List Int)) (o1 : (List Int)) : Option Bool :=
 (m_slices_IndexFunc_int_ScopesWithin_1 fuel x1 o1).bind fun v1 =>
 some (decide (0 ≤ v1))
def m_impl_ScopesWithin (fuel : Nat) (x1 : (List Int)) (x2 : (List Int)) : Option Bool :=
 (m_slices_ContainsFunc_int_ScopesWithin_1 fuel x1 x2).bind fun v1 =>
 some (!v1)
mutual
def m_impl_fitting_j2 (fuel : Nat) (x1 : (List Bind)) (x2 : Form) (g1 : (List Int)) (g2 : Int) (g9 : Bool) : Option (List Int) :=
 match fuel with
 | 0 => none
 | fuel + 1 =>
 (bif g9 then
 chk (decide ((g1.length + [g2].length) * 8 ≤ 140737488355328)) <|
 m_impl_fitting_l1 fuel x1 x2 (g1 ++ [g2]) (g2 + 1)
 else
 m_impl_fitting_l1 fuel x1 x2 g1 (g2 + 1))
def m_impl_fitting_l1 (fuel : Nat) (x1 : (List Bind)) (x2 : Form) (g1 : (List Int)) (g2 : Int) : Option (List Int) :=
 match fuel with
 | 0 => none
 | fuel + 1 =>
 (bif (decide (g2 < (x1.length : Int))) then
 (idx x1 g2).bind fun v6 =>
 (bif (decide (v6.name = x2.name)) then
 (m_impl_ScopesWithin fuel v6.scopes x2.scopes).bind fun v8 =>
 m_impl_fitting_j2 fuel x1 x2 g1 g2 v8
 else
 m_impl_fitting_j2 fuel x1 x2 g1 g2 false)
 else
 some g1)
end
def m_impl_fitting (fuel : Nat) (x1 : (List Bind)) (x2 : Form) : Option (List Int) :=
 m_impl_fitting_l1 fuel x1 x2 ([] : List Int) 0
def m_impl_bound_1 (fuel : Nat) (x1 : Int) (o1 : (List Bind)) (o2 : Int) : Option Bool :=
 (idx o1 x1).bind fun v1 =>
 (idx o1 o2).bind fun v2 =>
 (m_impl_ScopesWithin fuel v1.scopes v2.scopes).bind fun v3 =>
 some (!v3)
def m_slices_IndexFunc_int_bound_1_l1 (fuel : Nat) (x1 : (List Int)) (o1 : (List Bind)) (o2 : Int) (g1 : Int) : Option Int :=
 match fuel with
 | 0 => none
 | fuel + 1 =>
 (bif (decide (g1 < (x1.length : Int))) then
 (idx x1 g1).bind fun v5 =>
 (m_impl_bound_1 fuel v5 o1 o2).bind fun v6 =>
 (bif v6 then
 some g1
 else
 m_slices_IndexFunc_int_bound_1_l1 fuel x1 o1 o2 (g1 + 1))
 else
 some (-1))
def m_slices_IndexFunc_int_bound_1 (fuel : Nat) (x1 : (List Int)) (o1 : (List Bind)) (o2 : Int) : Option Int :=
 m_slices_IndexFunc_int_bound_1_l1 fuel x1 o1 o2 0
def m_slices_ContainsFunc_int_bound_1 (fuel : Nat) (x1 : (List Int)) (o1 : (List Bind)) (o2 : Int) : Option Bool :=
 (m_slices_IndexFunc_int_bound_1 fuel x1 o1 o2).bind fun v1 =>
 some (decide (0 ≤ v1))
def m_impl_bound_l1 (fuel : Nat) (x1 : (List Bind)) (v1 : (List Int)) (g3 : Int) : Option (Int × Int) :=
 match fuel with
 | 0 => none
 | fuel + 1 =>
 (bif (decide (g3 < (v1.length : Int))) then
 (idx v1 g3).bind fun v7 =>
 (m_slices_ContainsFunc_int_bound_1 fuel v1 x1 v7).bind fun v8 =>
 (bif (!v8) then
 some (v7, 1)
 else
 m_impl_bound_l1 fuel x1 v1 (g3 + 1))
 else
 some (0, 2))
def m_impl_bound (fuel : Nat) (x1 : (List Bind)) (x2 : Form) : Option (Int × Int) :=
 (m_impl_fitting fuel x1 x2).bind fun v1 =>
 (bif (decide ((v1.length : Int) = 0)) then
 some (0, 0)
 else
 m_impl_bound_l1 fuel x1 v1 0)
def m_impl_meaning (fuel : Nat) (x1 : Expansion) (x2 : Form) : Option (Int × Int) :=
 (m_impl_bound fuel x1.binds x2).bind fun v1 =>
 (bif (decide (v1.2 = 0)) then
 some (0, 0)
 else
 (bif (decide (v1.2 = 2)) then
 some (4, 0)
 else
 (idx x1.binds v1.1).bind fun v4 =>
 (m_impl_within fuel v4.id 1 5).bind fun v5 =>
 (bif v5 then
 some (1, v4.id)
 else
 (m_impl_macroAt fuel x1.macros v4.id).bind fun v7 =>
 (bif (decide (0 ≤ v7)) then
 some (2, v4.id)
 else
 some (3, v4.id)))))
def m_impl_MeaningOf_j1 (fuel : Nat) (x1 : Expansion) (x2 : Form) (g4 : Bool) : Option (Int × Int) :=
 match fuel with
 | 0 => none
 | fuel + 1 =>
 (bif g4 then
 some (0, 0)
 else
 (m_impl_meaning fuel x1 x2).bind fun v7 =>
 some (v7.1, v7.2))
def m_impl_MeaningOf (fuel : Nat) (x1 : Expansion) (x2 : Form) : Option (Int × Int) :=
 (m_impl_ExpansionValid fuel x1).bind fun v1 =>
 (bif (!v1) then
 m_impl_MeaningOf_j1 fuel x1 x2 true
 else
 (m_impl_isName fuel x2).bind fun v3 =>
 m_impl_MeaningOf_j1 fuel x1 x2 (!v3))
def m_laws_FnExactMeaningOf_j1 (fuel : Nat) (x1 : Expansion) (x2 : Form) (v8 : Expansion) (v9 : Form) (g12 : Bool) : Option Bool :=
 match fuel with
 | 0 => none
 | fuel + 1 =>
 (bif g12 then
 some false
 else
 (m_laws_toExpansion fuel x1).bind fun v15 =>
 (m_laws_eqExpansion fuel v8 v15).bind fun v16 =>
 (bif (!v16) then
 some false
 else
 (m_laws_toForm fuel x2).bind fun v18 =>
 (m_laws_eqForm fuel v9 v18).bind fun v19 =>
 (bif (!v19) then
 some false
 else
 some true)))
def m_laws_FnExactMeaningOf (fuel : Nat) (x1 : Expansion) (x2 : Form) : Option Bool :=
 (m_laws_szExpansion fuel x1 1048576).bind fun v1 =>
 (bif (decide (v1 < 0)) then
 some true
 else
 (m_laws_szForm fuel x2 v1).bind fun v3 =>
 (bif (decide (v3 < 0)) then
 some true
 else
 (m_laws_toExpansion fuel x1).bind fun v5 =>
 (m_laws_toForm fuel x2).bind fun v6 =>
 (m_spec_MeaningOf fuel v5 v6).bind fun v7 =>
 (m_laws_toExpansion fuel x1).bind fun v8 =>
 (m_laws_toForm fuel x2).bind fun v9 =>
 (m_impl_MeaningOf fuel v8 v9).bind fun v10 =>
 (bif (decide (v10.1 ≠ v7.1)) then
 m_laws_FnExactMeaningOf_j1 fuel x1 x2 v8 v9 true
 else
 m_laws_FnExactMeaningOf_j1 fuel x1 x2 v8 v9 (decide (v10.2 ≠ v7.2)))))
end Go.Abs
